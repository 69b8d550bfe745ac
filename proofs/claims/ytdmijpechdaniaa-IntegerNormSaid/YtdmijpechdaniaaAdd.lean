/- Add of the program. -/
import Derived.Test.YtdmijpechdaniaaPow
namespace Go.Proofs.Ytdmijpechdaniaa
open Go.RowKit
attribute [local go_sem ↓] Go.wp_at_zero Go.wp_at_succ

theorem ext4e {W w : World} {p1 p2 p3 p4 : Addr} {v1 v2 v3 v4 : Value} (h : w.cell? p1 = some v1 ∧ w.cell? p2 = some v2 ∧ w.cell? p3 = some v3 ∧ w.cell? p4 = some v4 ∧ Ext W w) : Ext W w := h.2.2.2.2
theorem toZ_add_eq (na : Bool) (xs ys zs : List Nat) (h : val zs = val xs + val ys) : toZ na zs = toZ na xs + toZ na ys := by
  unfold toZ; rw [h]; cases na <;> simp; omega
theorem toZ_add_lt (na : Bool) (xs ys : List Nat) (h : val xs < val ys) : toZ (!na) (digs (val (trim ys) - val (trim xs))) = toZ na xs + toZ (!na) ys := by
  unfold toZ; rw [val_digs, val_trim, val_trim]; cases na <;> simp <;> omega
theorem toZ_add_ge (na : Bool) (xs ys : List Nat) (h : val ys ≤ val xs) : toZ na (digs (val (trim xs) - val (trim ys))) = toZ na xs + toZ (!na) ys := by
  unfold toZ; rw [val_digs, val_trim, val_trim]; cases na <;> simp <;> omega
theorem not_cases {na nb : Bool} (h : nb ≠ na) : nb = !na := by cases na <;> cases nb <;> simp_all
theorem cmpW_trim (xs ys : List Nat) : cmpW (trim xs) (trim ys) = ordI (val xs) (val ys) := cmpW_digs _ _

set_option maxHeartbeats 1600000 in
theorem i_Add_eq (va vb : Value) (na nb : Bool) (xs ys : List Nat) (w : World) (ha : IntR w va na xs) (hb : IntR w vb nb ys) (h1 : xs.length ≤ 2147483648) (h2 : ys.length ≤ 2147483648) (hn : na = nb) (z : Int) (hz : z = toZ na xs + toZ nb ys) :
    Calls Try.prog 41 #[va, vb] w (RetInt z w) := by
  obtain ⟨A, n, c, rfl, hx⟩ := ha
  obtain ⟨B, m, d, rfl, hy⟩ := hb
  subst hn
  obtain ⟨W, hW⟩ : ∃ W, W = ((w.alloc (.cells #[.bool na, .slice A n c] 24)).alloc (.cells #[.bool na, .slice B m d] 24)).alloc (.cells #[.bool false, .slice none 0 0] 24) := ⟨_, rfl⟩
  obtain ⟨⟨ca0, ca1, cb0, cb1⟩, ⟨cr0, cr1, fr0, fr1⟩, hbW⟩ := two_boxes w _ _ _ _ _ _ _ W hW
  have hl1 := trim_len hx.wd h1
  have hl2 := trim_len hy.wd h2
  have Hx := Lib.hid hx
  have Hy := Lib.hid hy
  have hH := keep4 ⟨ca0, ca1, cb0, cb1, hbW⟩ (Below.drew (Below.refl _ _))
  have hcmp := fun W' (h1 : Wrd W' A (trim xs).length c (trim xs)) (h2 : Wrd W' B (trim ys).length d (trim ys)) => i_compare A B (trim xs).length (trim ys).length c d (trim xs) (trim ys) W' h1 h2
  rw [cmpW_trim] at hcmp
  obtain ⟨o, ho⟩ : ∃ o, o = ordI (val xs) (val ys) := ⟨_, rfl⟩
  rw [← ho] at hcmp
  have HZ : Hid (∀ zs, val zs = val (trim xs) + val (trim ys) → toZ na zs = z) := fun zs hzs => (toZ_add_eq na xs ys zs (by rw [hzs, val_trim, val_trim])).trans hz.symm
  have Hcmp := Lib.hid hcmp
  have Ho := Lib.hid ho
  have ho1 : True := trivial
  have hb0 : (na == !na) = false := by cases na <;> rfl
  clear hx hy hz hcmp ho
  go_enter Try.func41, Try.ntmps41
  go_wp2_with fail
  rw [← hW]
  clear hW
  go_region_held3 (fun w' => w'.cell? ⟨w.heap.size, 0, none⟩ = some (.bool na) ∧ w'.cell? ⟨w.heap.size, 1, none⟩ = some (.slice A n c) ∧ w'.cell? ⟨w.heap.size + 1, 0, none⟩ = some (.bool na) ∧ w'.cell? ⟨w.heap.size + 1, 1, none⟩ = some (.slice B m d) ∧ Ext w w')
    (with_reducible first | exact hH | assumption | exact keep4 (by assumption) (by assumption))
    (first
      | ((go_at_call 50; (with_reducible refine (i_trim A n c xs _ (Hx.out.ext (ext4e (by assumption)))).mono ?_); rintro e w' ⟨rfl, rfl⟩))
      | ((go_at_call 50; (with_reducible refine (i_trim B m d ys _ (Hy.out.ext (ext4e (by assumption)))).mono ?_); rintro e w' ⟨rfl, rfl⟩)))
  obtain ⟨W1, hW1⟩ : ∃ W1, W1 = W.drew := ⟨_, rfl⟩
  rw [← hW1] at hH ⊢
  have hEc : Ext W W1 := by rw [hW1]; exact (Ext.refl W).drew
  have hH' := hH
  obtain ⟨d0, d1, e0, e1, hE1⟩ := hH'
  clear hW1
  go_wp2_with (go_at_call 63; (with_reducible refine (Hcmp.out _ (Hx.out.trim.ext hE1) (Hy.out.trim.ext hE1)).mono ?_); rintro e w2 ⟨rfl, q, rfl⟩; have hH := keep4 hH (ext_drewN _ q); have hEc := hEc.trans (ext_drewN _ q))
  skip
  have hH2 := keep4 hH (Below.drew (Below.refl _ _))
  have hEd := Ext.drew hEc
  clear d0 d1 e0 e1 hE1 Hcmp hH hEc
  go_region_held3 (fun w' => w'.cell? ⟨w.heap.size, 0, none⟩ = some (.bool na) ∧ w'.cell? ⟨w.heap.size, 1, none⟩ = some (.slice A n c) ∧ w'.cell? ⟨w.heap.size + 1, 0, none⟩ = some (.bool na) ∧ w'.cell? ⟨w.heap.size + 1, 1, none⟩ = some (.slice B m d) ∧ Ext w w')
    (with_reducible first | exact hH2 | assumption | exact keep4 (by assumption) (by assumption) | exact keep4s (by assumption) (by omega) (by dsimp only; omega) (by dsimp only; omega) (by dsimp only; omega) (by dsimp only; omega))
    (first
      | ((go_at_call 54; (with_reducible refine (i_plus _ _ _ _ _ _ (trim xs) (trim ys) _ (Hx.out.trim.ext (ext4e (by assumption))) (Hy.out.trim.ext (ext4e (by assumption))) hl1 hl2).mono ?_); rintro e w1 ⟨A1, n1, c1, zs, rfl, hw1, ⟨hzs, -⟩, hb1⟩; have hzz := HZ.out zs hzs))
      | ((go_at_call 48; (with_reducible refine (i_signed_z hw1 hzz).mono ?_); rintro e w2 ⟨v2, rfl, ⟨A2, n2, c2, rfl, hw2⟩, hb2⟩; have hE2 := Ext.more (Ext.more hEd hb1) hb2; have su0 := kc cr0 hE2; have su1 := kc cr1 hE2; have sf0 := kf cr0 fr0 hE2; have sf1 := kf cr1 fr1 hE2)))
  go_wp2_with fail
  exact bodyPost_ret (v := .agg #[.bool (decide (z < 0)), .slice A2 n2 c2]) (by simp [results, Try.results41, go_sem, su0, su1]) rfl (fin_int su0 su1 hw2 (hbW.trans hE2) (by omega))

set_option maxHeartbeats 1600000 in
theorem i_Add_lt (va vb : Value) (na nb : Bool) (xs ys : List Nat) (w : World) (ha : IntR w va na xs) (hb : IntR w vb nb ys) (h1 : xs.length ≤ 2147483648) (h2 : ys.length ≤ 2147483648) (hn : nb = !na) (hl : val xs < val ys) (z : Int) (hz : z = toZ na xs + toZ nb ys) :
    Calls Try.prog 41 #[va, vb] w (RetInt z w) := by
  obtain ⟨A, n, c, rfl, hx⟩ := ha
  obtain ⟨B, m, d, rfl, hy⟩ := hb
  subst hn
  obtain ⟨W, hW⟩ : ∃ W, W = ((w.alloc (.cells #[.bool na, .slice A n c] 24)).alloc (.cells #[.bool (!na), .slice B m d] 24)).alloc (.cells #[.bool false, .slice none 0 0] 24) := ⟨_, rfl⟩
  obtain ⟨⟨ca0, ca1, cb0, cb1⟩, ⟨cr0, cr1, fr0, fr1⟩, hbW⟩ := two_boxes w _ _ _ _ _ _ _ W hW
  have hl1 := trim_len hx.wd h1
  have hl2 := trim_len hy.wd h2
  have Hx := Lib.hid hx
  have Hy := Lib.hid hy
  have hH := keep4 ⟨ca0, ca1, cb0, cb1, hbW⟩ (Below.drew (Below.refl _ _))
  have hcmp := fun W' (h1 : Wrd W' A (trim xs).length c (trim xs)) (h2 : Wrd W' B (trim ys).length d (trim ys)) => i_compare A B (trim xs).length (trim ys).length c d (trim xs) (trim ys) W' h1 h2
  rw [cmpW_trim] at hcmp
  obtain ⟨o, ho⟩ : ∃ o, o = ordI (val xs) (val ys) := ⟨_, rfl⟩
  rw [← ho] at hcmp
  have HZ : Hid (toZ (!na) (digs (val (trim ys) - val (trim xs))) = z) := (toZ_add_lt na xs ys hl).trans hz.symm
  have Hcmp := Lib.hid hcmp
  have Ho := Lib.hid ho
  have HM := Lib.hid (fun W' h1 h2 => i_minus B A (trim ys).length (trim xs).length d c (trim ys) (trim xs) W' h1 h2 (by have h3 := val_trim xs; have h4 := val_trim ys; omega) hl2); have ho1 : o < 0 := by have := ordI_lt (a := (val xs : Int)) (b := val ys) (by omega); omega
  have hb0 : (na == !na) = false := by cases na <;> rfl
  clear hx hy hz hcmp ho
  go_enter Try.func41, Try.ntmps41
  go_wp2_with fail
  rw [← hW]
  clear hW
  go_region_held3 (fun w' => w'.cell? ⟨w.heap.size, 0, none⟩ = some (.bool na) ∧ w'.cell? ⟨w.heap.size, 1, none⟩ = some (.slice A n c) ∧ w'.cell? ⟨w.heap.size + 1, 0, none⟩ = some (.bool (!na)) ∧ w'.cell? ⟨w.heap.size + 1, 1, none⟩ = some (.slice B m d) ∧ Ext w w')
    (with_reducible first | exact hH | assumption | exact keep4 (by assumption) (by assumption))
    (first
      | ((go_at_call 50; (with_reducible refine (i_trim A n c xs _ (Hx.out.ext (ext4e (by assumption)))).mono ?_); rintro e w' ⟨rfl, rfl⟩))
      | ((go_at_call 50; (with_reducible refine (i_trim B m d ys _ (Hy.out.ext (ext4e (by assumption)))).mono ?_); rintro e w' ⟨rfl, rfl⟩)))
  obtain ⟨W1, hW1⟩ : ∃ W1, W1 = W.drew := ⟨_, rfl⟩
  rw [← hW1] at hH ⊢
  have hEc : Ext W W1 := by rw [hW1]; exact (Ext.refl W).drew
  have hH' := hH
  obtain ⟨d0, d1, e0, e1, hE1⟩ := hH'
  clear hW1
  go_wp2_with (go_at_call 63; (with_reducible refine (Hcmp.out _ (Hx.out.trim.ext hE1) (Hy.out.trim.ext hE1)).mono ?_); rintro e w2 ⟨rfl, q, rfl⟩; have hH := keep4 hH (ext_drewN _ q); have hEc := hEc.trans (ext_drewN _ q))
  generalize W1.drewN q = W2 at *
  have hH2 := keep4 hH (Below.drew (Below.refl _ _))
  have hEd := Ext.drew hEc
  clear d0 d1 e0 e1 hE1 Hcmp hH hEc
  go_region_held3 (fun w' => w'.cell? ⟨w.heap.size, 0, none⟩ = some (.bool na) ∧ w'.cell? ⟨w.heap.size, 1, none⟩ = some (.slice A n c) ∧ w'.cell? ⟨w.heap.size + 1, 0, none⟩ = some (.bool (!na)) ∧ w'.cell? ⟨w.heap.size + 1, 1, none⟩ = some (.slice B m d) ∧ Ext w w')
    (with_reducible first | exact hH2 | assumption | exact keep4 (by assumption) (by assumption) | exact keep4s (by assumption) (by omega) (by dsimp only; omega) (by dsimp only; omega) (by dsimp only; omega) (by dsimp only; omega))
    (first
      | ((go_at_call 55; (with_reducible refine (HM.out _ (Hy.out.trim.ext (ext4e (by assumption))) (Hx.out.trim.ext (ext4e (by assumption)))).mono ?_); rintro e w1 ⟨A1, n1, c1, zs, rfl, hw1, rfl, hb1⟩; have hzz := HZ.out))
      | ((go_at_call 48; (with_reducible refine (i_signed_z hw1 hzz).mono ?_); rintro e w2 ⟨v2, rfl, ⟨A2, n2, c2, rfl, hw2⟩, hb2⟩; have hE2 := Ext.more (Ext.more hEd hb1) hb2; have su0 := kc cr0 hE2; have su1 := kc cr1 hE2; have sf0 := kf cr0 fr0 hE2; have sf1 := kf cr1 fr1 hE2)))
  go_wp2_with fail
  exact bodyPost_ret (v := .agg #[.bool (decide (z < 0)), .slice A2 n2 c2]) (by simp [results, Try.results41, go_sem, su0, su1]) rfl (fin_int su0 su1 hw2 (hbW.trans hE2) (by omega))

set_option maxHeartbeats 1600000 in
theorem i_Add_ge (va vb : Value) (na nb : Bool) (xs ys : List Nat) (w : World) (ha : IntR w va na xs) (hb : IntR w vb nb ys) (h1 : xs.length ≤ 2147483648) (h2 : ys.length ≤ 2147483648) (hn : nb = !na) (hl : val ys ≤ val xs) (z : Int) (hz : z = toZ na xs + toZ nb ys) :
    Calls Try.prog 41 #[va, vb] w (RetInt z w) := by
  obtain ⟨A, n, c, rfl, hx⟩ := ha
  obtain ⟨B, m, d, rfl, hy⟩ := hb
  subst hn
  obtain ⟨W, hW⟩ : ∃ W, W = ((w.alloc (.cells #[.bool na, .slice A n c] 24)).alloc (.cells #[.bool (!na), .slice B m d] 24)).alloc (.cells #[.bool false, .slice none 0 0] 24) := ⟨_, rfl⟩
  obtain ⟨⟨ca0, ca1, cb0, cb1⟩, ⟨cr0, cr1, fr0, fr1⟩, hbW⟩ := two_boxes w _ _ _ _ _ _ _ W hW
  have hl1 := trim_len hx.wd h1
  have hl2 := trim_len hy.wd h2
  have Hx := Lib.hid hx
  have Hy := Lib.hid hy
  have hH := keep4 ⟨ca0, ca1, cb0, cb1, hbW⟩ (Below.drew (Below.refl _ _))
  have hcmp := fun W' (h1 : Wrd W' A (trim xs).length c (trim xs)) (h2 : Wrd W' B (trim ys).length d (trim ys)) => i_compare A B (trim xs).length (trim ys).length c d (trim xs) (trim ys) W' h1 h2
  rw [cmpW_trim] at hcmp
  obtain ⟨o, ho⟩ : ∃ o, o = ordI (val xs) (val ys) := ⟨_, rfl⟩
  rw [← ho] at hcmp
  have HZ : Hid (toZ na (digs (val (trim xs) - val (trim ys))) = z) := (toZ_add_ge na xs ys hl).trans hz.symm
  have Hcmp := Lib.hid hcmp
  have Ho := Lib.hid ho
  have HM := Lib.hid (fun W' h1 h2 => i_minus A B (trim xs).length (trim ys).length c d (trim xs) (trim ys) W' h1 h2 (by have h3 := val_trim xs; have h4 := val_trim ys; omega) hl1); have ho1 : ¬ o < 0 := by have := ordI_ge (a := (val xs : Int)) (b := val ys) (by omega); omega
  have hb0 : (na == !na) = false := by cases na <;> rfl
  clear hx hy hz hcmp ho
  go_enter Try.func41, Try.ntmps41
  go_wp2_with fail
  rw [← hW]
  clear hW
  go_region_held3 (fun w' => w'.cell? ⟨w.heap.size, 0, none⟩ = some (.bool na) ∧ w'.cell? ⟨w.heap.size, 1, none⟩ = some (.slice A n c) ∧ w'.cell? ⟨w.heap.size + 1, 0, none⟩ = some (.bool (!na)) ∧ w'.cell? ⟨w.heap.size + 1, 1, none⟩ = some (.slice B m d) ∧ Ext w w')
    (with_reducible first | exact hH | assumption | exact keep4 (by assumption) (by assumption))
    (first
      | ((go_at_call 50; (with_reducible refine (i_trim A n c xs _ (Hx.out.ext (ext4e (by assumption)))).mono ?_); rintro e w' ⟨rfl, rfl⟩))
      | ((go_at_call 50; (with_reducible refine (i_trim B m d ys _ (Hy.out.ext (ext4e (by assumption)))).mono ?_); rintro e w' ⟨rfl, rfl⟩)))
  obtain ⟨W1, hW1⟩ : ∃ W1, W1 = W.drew := ⟨_, rfl⟩
  rw [← hW1] at hH ⊢
  have hEc : Ext W W1 := by rw [hW1]; exact (Ext.refl W).drew
  have hH' := hH
  obtain ⟨d0, d1, e0, e1, hE1⟩ := hH'
  clear hW1
  go_wp2_with (go_at_call 63; (with_reducible refine (Hcmp.out _ (Hx.out.trim.ext hE1) (Hy.out.trim.ext hE1)).mono ?_); rintro e w2 ⟨rfl, q, rfl⟩; have hH := keep4 hH (ext_drewN _ q); have hEc := hEc.trans (ext_drewN _ q))
  generalize W1.drewN q = W2 at *
  have hH2 := keep4 hH (Below.drew (Below.refl _ _))
  have hEd := Ext.drew hEc
  clear d0 d1 e0 e1 hE1 Hcmp hH hEc
  go_region_held3 (fun w' => w'.cell? ⟨w.heap.size, 0, none⟩ = some (.bool na) ∧ w'.cell? ⟨w.heap.size, 1, none⟩ = some (.slice A n c) ∧ w'.cell? ⟨w.heap.size + 1, 0, none⟩ = some (.bool (!na)) ∧ w'.cell? ⟨w.heap.size + 1, 1, none⟩ = some (.slice B m d) ∧ Ext w w')
    (with_reducible first | exact hH2 | assumption | exact keep4 (by assumption) (by assumption) | exact keep4s (by assumption) (by omega) (by dsimp only; omega) (by dsimp only; omega) (by dsimp only; omega) (by dsimp only; omega))
    (first
      | ((go_at_call 55; (with_reducible refine (HM.out _ (Hx.out.trim.ext (ext4e (by assumption))) (Hy.out.trim.ext (ext4e (by assumption)))).mono ?_); rintro e w1 ⟨A1, n1, c1, zs, rfl, hw1, rfl, hb1⟩; have hzz := HZ.out))
      | ((go_at_call 48; (with_reducible refine (i_signed_z hw1 hzz).mono ?_); rintro e w2 ⟨v2, rfl, ⟨A2, n2, c2, rfl, hw2⟩, hb2⟩; have hE2 := Ext.more (Ext.more hEd hb1) hb2; have su0 := kc cr0 hE2; have su1 := kc cr1 hE2; have sf0 := kf cr0 fr0 hE2; have sf1 := kf cr1 fr1 hE2)))
  go_wp2_with fail
  exact bodyPost_ret (v := .agg #[.bool (decide (z < 0)), .slice A2 n2 c2]) (by simp [results, Try.results41, go_sem, su0, su1]) rfl (fin_int su0 su1 hw2 (hbW.trans hE2) (by omega))


theorem i_Add (va vb : Value) (na nb : Bool) (xs ys : List Nat) (w : World) (ha : IntR w va na xs) (hb : IntR w vb nb ys) (h1 : xs.length ≤ 2147483648) (h2 : ys.length ≤ 2147483648) :
    Calls Try.prog 41 #[va, vb] w (RetInt (toZ na xs + toZ nb ys) w) := by
  by_cases hn : nb = na
  · exact i_Add_eq va vb na nb xs ys w ha hb h1 h2 hn.symm _ rfl
  · by_cases hl : val xs < val ys
    · exact i_Add_lt va vb na nb xs ys w ha hb h1 h2 (not_cases hn) hl _ rfl
    · exact i_Add_ge va vb na nb xs ys w ha hb h1 h2 (not_cases hn) (by omega) _ rfl
theorem toZ_neg (nb : Bool) (ys : List Nat) : toZ (!nb) ys = -toZ nb ys := by unfold toZ; cases nb <;> simp

set_option maxHeartbeats 800000 in
theorem i_Sub (va vb : Value) (na nb : Bool) (xs ys : List Nat) (w : World) (ha : IntR w va na xs) (hb : IntR w vb nb ys) (h1 : xs.length ≤ 2147483648) (h2 : ys.length ≤ 2147483648) :
    Calls Try.prog 42 #[va, vb] w (RetInt (toZ na xs - toZ nb ys) w) := by
  obtain ⟨A, n, c, rfl, hx⟩ := ha
  obtain ⟨B, m, d, rfl, hy⟩ := hb
  obtain ⟨W, hW⟩ : ∃ W, W = ((w.alloc (.cells #[.bool na, .slice A n c] 24)).alloc (.cells #[.bool nb, .slice B m d] 24)).alloc (.cells #[.bool false, .slice none 0 0] 24) := ⟨_, rfl⟩
  obtain ⟨⟨ca0, ca1, cb0, cb1⟩, ⟨cr0, cr1, fr0, fr1⟩, hbW⟩ := two_boxes w _ _ _ _ _ _ _ W hW
  have hc := i_Add _ _ na (!nb) xs ys W (intR_mk (hx.ext hbW)) (intR_mk (hy.ext hbW)) h1 h2
  rw [toZ_neg] at hc
  obtain ⟨z, hz⟩ : ∃ z, z = toZ na xs - toZ nb ys := ⟨_, rfl⟩
  rw [← hz]
  rw [show toZ na xs + -toZ nb ys = z by omega] at hc
  have Hc := Lib.hid hc
  clear hx hy hc hz
  go_enter Try.func42, Try.ntmps42
  go_wp2_with fail
  rw [← hW]
  clear hW
  go_wp2_with (go_at_call 41; (with_reducible refine Hc.out.mono ?_); rintro e w2 ⟨v2, rfl, ⟨A2, n2, c2, rfl, hw2⟩, hb2⟩; have hE2 : Ext W w2 := hb2; have su0 := kc cr0 hE2; have su1 := kc cr1 hE2; have sf0 := kf cr0 fr0 hE2; have sf1 := kf cr1 fr1 hE2)
  exact bodyPost_ret (v := .agg #[.bool (decide (z < 0)), .slice A2 n2 c2]) (by simp [results, Try.results42, go_sem, su0, su1]) rfl (fin_int su0 su1 hw2 (hbW.trans hE2) (by omega))

end Go.Proofs.Ytdmijpechdaniaa
