/- Add of the program. Cmp of the program; Sign, Add, Sub and Cmp of the reference. Sign, Add, Sub and Cmp of the reference. Sub and Cmp of the reference; the sums' law. -/
import Derived.Test.YtmpadildchphgaaGreatDoorSAi
namespace Go.Proofs.YtmpadildchphgaaGreatDoor
open Go.RowKit
attribute [local go_sem ↓] Go.wp_at_zero Go.wp_at_succ
theorem ext4e {W w : World} {p1 p2 p3 p4 : Addr} {v1 v2 v3 v4 : Value} (h : w.cell? p1 = some v1 ∧ w.cell? p2 = some v2 ∧ w.cell? p3 = some v3 ∧ w.cell? p4 = some v4 ∧ Ext W w) : Ext W w := h.2.2.2.2
theorem toZ_add_eq (na : Bool) (xs ys zs : List Nat) (h : val zs = val xs + val ys) : toZ na zs = toZ na xs + toZ na ys := by
  unfold toZ; rw [h]; cases na <;> simp; omega
theorem toZ_add_lt (na : Bool) (xs ys : List Nat) (h : val xs < val ys) : toZ (!na) (digs (val (trim ys) - val (trim xs))) = toZ na xs + toZ (!na) ys := by
  unfold toZ; rw [val_digs, val_trim, val_trim]; cases na <;> simp <;> omega
theorem toZ_add_ge (na : Bool) (xs ys : List Nat) (h : val ys ≤ val xs) : toZ na (digs (val (trim xs) - val (trim ys))) = toZ na xs + toZ (!na) ys := by
  unfold toZ; rw [val_digs, val_trim, val_trim]; cases na <;> simp <;> omega
theorem not_cases {na nb : Bool} (h : nb ≠ na) : nb = !na := by cases na <;> cases nb <;> simp_all
theorem cmpW_trim (xs ys : List Nat) : cmpW (trim xs) (trim ys) = ordI (val xs) (val ys) := cmpW_digs _ _
set_option maxHeartbeats 1600000 in
theorem i_Add_eq (va vb : Value) (na nb : Bool) (xs ys : List Nat) (w : World) (ha : IntR w va na xs) (hb : IntR w vb nb ys) (h1 : xs.length ≤ 2147483648) (h2 : ys.length ≤ 2147483648) (hn : na = nb) (z : Int) (hz : z = toZ na xs + toZ nb ys) :
    Calls Tryz.prog 71 #[va, vb] w (RetInt z w) := by
  obtain ⟨A, n, c, rfl, hx⟩ := ha
  obtain ⟨B, m, d, rfl, hy⟩ := hb
  subst hn
  obtain ⟨W, hW⟩ : ∃ W, W = ((w.alloc (.cells #[.bool na, .slice A n c] 24)).alloc (.cells #[.bool na, .slice B m d] 24)).alloc (.cells #[.bool false, .slice none 0 0] 24) := ⟨_, rfl⟩
  obtain ⟨⟨ca0, ca1, cb0, cb1⟩, ⟨cr0, cr1, fr0, fr1⟩, hbW⟩ := two_boxes w _ _ _ _ _ _ _ W hW
  have hl1 := trim_len hx.wd h1
  have hl2 := trim_len hy.wd h2
  have Hx := Lib.hid hx
  have Hy := Lib.hid hy
  have hH := keep4 ⟨ca0, ca1, cb0, cb1, hbW⟩ (Below.drew (Below.refl _ _))
  have hcmp := fun W' (h1 : Wrd W' A (trim xs).length c (trim xs)) (h2 : Wrd W' B (trim ys).length d (trim ys)) => i_compare A B (trim xs).length (trim ys).length c d (trim xs) (trim ys) W' h1 h2
  rw [cmpW_trim] at hcmp
  obtain ⟨o, ho⟩ : ∃ o, o = ordI (val xs) (val ys) := ⟨_, rfl⟩
  rw [← ho] at hcmp
  have HZ : Hid (∀ zs, val zs = val (trim xs) + val (trim ys) → toZ na zs = z) := fun zs hzs => (toZ_add_eq na xs ys zs (by rw [hzs, val_trim, val_trim])).trans hz.symm
  have Hcmp := Lib.hid hcmp
  have Ho := Lib.hid ho
  have ho1 : True := trivial
  have hb0 : (na == !na) = false := by cases na <;> rfl
  clear hx hy hz hcmp ho
  go_enter Tryz.func71, Tryz.ntmps71
  go_wp2_with fail
  rw [← hW]
  clear hW
  go_region_held3 (fun w' => w'.cell? ⟨w.heap.size, 0, none⟩ = some (.bool na) ∧ w'.cell? ⟨w.heap.size, 1, none⟩ = some (.slice A n c) ∧ w'.cell? ⟨w.heap.size + 1, 0, none⟩ = some (.bool na) ∧ w'.cell? ⟨w.heap.size + 1, 1, none⟩ = some (.slice B m d) ∧ Ext w w')
    (with_reducible first | exact hH | assumption | exact keep4 (by assumption) (by assumption))
    (first
      | ((go_at_call 98; (with_reducible refine (i_trim A n c xs _ (Hx.out.ext (ext4e (by assumption)))).mono ?_); rintro e w' ⟨rfl, rfl⟩))
      | ((go_at_call 98; (with_reducible refine (i_trim B m d ys _ (Hy.out.ext (ext4e (by assumption)))).mono ?_); rintro e w' ⟨rfl, rfl⟩)))
  obtain ⟨W1, hW1⟩ : ∃ W1, W1 = W.drew := ⟨_, rfl⟩
  rw [← hW1] at hH ⊢
  have hEc : Ext W W1 := by rw [hW1]; exact (Ext.refl W).drew
  have hH' := hH
  obtain ⟨d0, d1, e0, e1, hE1⟩ := hH'
  clear hW1
  go_wp2_with (go_at_call 101; (with_reducible refine (Hcmp.out _ (Hx.out.trim.ext hE1) (Hy.out.trim.ext hE1)).mono ?_); rintro e w2 ⟨rfl, q, rfl⟩; have hH := keep4 hH (ext_drewN _ q); have hEc := hEc.trans (ext_drewN _ q))
  skip
  have hH2 := keep4 hH (Below.drew (Below.refl _ _))
  have hEd := Ext.drew hEc
  clear d0 d1 e0 e1 hE1 Hcmp hH hEc
  go_region_held3 (fun w' => w'.cell? ⟨w.heap.size, 0, none⟩ = some (.bool na) ∧ w'.cell? ⟨w.heap.size, 1, none⟩ = some (.slice A n c) ∧ w'.cell? ⟨w.heap.size + 1, 0, none⟩ = some (.bool na) ∧ w'.cell? ⟨w.heap.size + 1, 1, none⟩ = some (.slice B m d) ∧ Ext w w')
    (with_reducible first | exact hH2 | assumption | exact keep4 (by assumption) (by assumption) | exact keep4s (by assumption) (by omega) (by dsimp only; omega) (by dsimp only; omega) (by dsimp only; omega) (by dsimp only; omega))
    (first
      | ((go_at_call 100; (with_reducible refine (i_plus _ _ _ _ _ _ (trim xs) (trim ys) _ (Hx.out.trim.ext (ext4e (by assumption))) (Hy.out.trim.ext (ext4e (by assumption))) hl1 hl2).mono ?_); rintro e w1 ⟨A1, n1, c1, zs, rfl, hw1, ⟨hzs, -⟩, hb1⟩; have hzz := HZ.out zs hzs))
      | ((go_at_call 99; (with_reducible refine (i_signed_z hw1 hzz).mono ?_); rintro e w2 ⟨v2, rfl, ⟨A2, n2, c2, rfl, hw2⟩, hb2⟩; have hE2 := Ext.more (Ext.more hEd hb1) hb2; have su0 := kc cr0 hE2; have su1 := kc cr1 hE2; have sf0 := kf cr0 fr0 hE2; have sf1 := kf cr1 fr1 hE2)))
  go_wp2_with fail
  exact bodyPost_ret (v := .agg #[.bool (decide (z < 0)), .slice A2 n2 c2]) (by simp [results, Tryz.results71, go_sem, su0, su1]) rfl (fin_int su0 su1 hw2 (hbW.trans hE2) (by omega))
set_option maxHeartbeats 1600000 in
theorem i_Add_lt (va vb : Value) (na nb : Bool) (xs ys : List Nat) (w : World) (ha : IntR w va na xs) (hb : IntR w vb nb ys) (h1 : xs.length ≤ 2147483648) (h2 : ys.length ≤ 2147483648) (hn : nb = !na) (hl : val xs < val ys) (z : Int) (hz : z = toZ na xs + toZ nb ys) :
    Calls Tryz.prog 71 #[va, vb] w (RetInt z w) := by
  obtain ⟨A, n, c, rfl, hx⟩ := ha
  obtain ⟨B, m, d, rfl, hy⟩ := hb
  subst hn
  obtain ⟨W, hW⟩ : ∃ W, W = ((w.alloc (.cells #[.bool na, .slice A n c] 24)).alloc (.cells #[.bool (!na), .slice B m d] 24)).alloc (.cells #[.bool false, .slice none 0 0] 24) := ⟨_, rfl⟩
  obtain ⟨⟨ca0, ca1, cb0, cb1⟩, ⟨cr0, cr1, fr0, fr1⟩, hbW⟩ := two_boxes w _ _ _ _ _ _ _ W hW
  have hl1 := trim_len hx.wd h1
  have hl2 := trim_len hy.wd h2
  have Hx := Lib.hid hx
  have Hy := Lib.hid hy
  have hH := keep4 ⟨ca0, ca1, cb0, cb1, hbW⟩ (Below.drew (Below.refl _ _))
  have hcmp := fun W' (h1 : Wrd W' A (trim xs).length c (trim xs)) (h2 : Wrd W' B (trim ys).length d (trim ys)) => i_compare A B (trim xs).length (trim ys).length c d (trim xs) (trim ys) W' h1 h2
  rw [cmpW_trim] at hcmp
  obtain ⟨o, ho⟩ : ∃ o, o = ordI (val xs) (val ys) := ⟨_, rfl⟩
  rw [← ho] at hcmp
  have HZ : Hid (toZ (!na) (digs (val (trim ys) - val (trim xs))) = z) := (toZ_add_lt na xs ys hl).trans hz.symm
  have Hcmp := Lib.hid hcmp
  have Ho := Lib.hid ho
  have HM := Lib.hid (fun W' h1 h2 => i_minus B A (trim ys).length (trim xs).length d c (trim ys) (trim xs) W' h1 h2 (by have h3 := val_trim xs; have h4 := val_trim ys; omega) hl2); have ho1 : o < 0 := by have := ordI_lt (a := (val xs : Int)) (b := val ys) (by omega); omega
  have hb0 : (na == !na) = false := by cases na <;> rfl
  clear hx hy hz hcmp ho
  go_enter Tryz.func71, Tryz.ntmps71
  go_wp2_with fail
  rw [← hW]
  clear hW
  go_region_held3 (fun w' => w'.cell? ⟨w.heap.size, 0, none⟩ = some (.bool na) ∧ w'.cell? ⟨w.heap.size, 1, none⟩ = some (.slice A n c) ∧ w'.cell? ⟨w.heap.size + 1, 0, none⟩ = some (.bool (!na)) ∧ w'.cell? ⟨w.heap.size + 1, 1, none⟩ = some (.slice B m d) ∧ Ext w w')
    (with_reducible first | exact hH | assumption | exact keep4 (by assumption) (by assumption))
    (first
      | ((go_at_call 98; (with_reducible refine (i_trim A n c xs _ (Hx.out.ext (ext4e (by assumption)))).mono ?_); rintro e w' ⟨rfl, rfl⟩))
      | ((go_at_call 98; (with_reducible refine (i_trim B m d ys _ (Hy.out.ext (ext4e (by assumption)))).mono ?_); rintro e w' ⟨rfl, rfl⟩)))
  obtain ⟨W1, hW1⟩ : ∃ W1, W1 = W.drew := ⟨_, rfl⟩
  rw [← hW1] at hH ⊢
  have hEc : Ext W W1 := by rw [hW1]; exact (Ext.refl W).drew
  have hH' := hH
  obtain ⟨d0, d1, e0, e1, hE1⟩ := hH'
  clear hW1
  go_wp2_with (go_at_call 101; (with_reducible refine (Hcmp.out _ (Hx.out.trim.ext hE1) (Hy.out.trim.ext hE1)).mono ?_); rintro e w2 ⟨rfl, q, rfl⟩; have hH := keep4 hH (ext_drewN _ q); have hEc := hEc.trans (ext_drewN _ q))
  generalize W1.drewN q = W2 at *
  have hH2 := keep4 hH (Below.drew (Below.refl _ _))
  have hEd := Ext.drew hEc
  clear d0 d1 e0 e1 hE1 Hcmp hH hEc
  go_region_held3 (fun w' => w'.cell? ⟨w.heap.size, 0, none⟩ = some (.bool na) ∧ w'.cell? ⟨w.heap.size, 1, none⟩ = some (.slice A n c) ∧ w'.cell? ⟨w.heap.size + 1, 0, none⟩ = some (.bool (!na)) ∧ w'.cell? ⟨w.heap.size + 1, 1, none⟩ = some (.slice B m d) ∧ Ext w w')
    (with_reducible first | exact hH2 | assumption | exact keep4 (by assumption) (by assumption) | exact keep4s (by assumption) (by omega) (by dsimp only; omega) (by dsimp only; omega) (by dsimp only; omega) (by dsimp only; omega))
    (first
      | ((go_at_call 102; (with_reducible refine (HM.out _ (Hy.out.trim.ext (ext4e (by assumption))) (Hx.out.trim.ext (ext4e (by assumption)))).mono ?_); rintro e w1 ⟨A1, n1, c1, zs, rfl, hw1, rfl, hb1⟩; have hzz := HZ.out))
      | ((go_at_call 99; (with_reducible refine (i_signed_z hw1 hzz).mono ?_); rintro e w2 ⟨v2, rfl, ⟨A2, n2, c2, rfl, hw2⟩, hb2⟩; have hE2 := Ext.more (Ext.more hEd hb1) hb2; have su0 := kc cr0 hE2; have su1 := kc cr1 hE2; have sf0 := kf cr0 fr0 hE2; have sf1 := kf cr1 fr1 hE2)))
  go_wp2_with fail
  exact bodyPost_ret (v := .agg #[.bool (decide (z < 0)), .slice A2 n2 c2]) (by simp [results, Tryz.results71, go_sem, su0, su1]) rfl (fin_int su0 su1 hw2 (hbW.trans hE2) (by omega))
set_option maxHeartbeats 1600000 in
theorem i_Add_ge (va vb : Value) (na nb : Bool) (xs ys : List Nat) (w : World) (ha : IntR w va na xs) (hb : IntR w vb nb ys) (h1 : xs.length ≤ 2147483648) (h2 : ys.length ≤ 2147483648) (hn : nb = !na) (hl : val ys ≤ val xs) (z : Int) (hz : z = toZ na xs + toZ nb ys) :
    Calls Tryz.prog 71 #[va, vb] w (RetInt z w) := by
  obtain ⟨A, n, c, rfl, hx⟩ := ha
  obtain ⟨B, m, d, rfl, hy⟩ := hb
  subst hn
  obtain ⟨W, hW⟩ : ∃ W, W = ((w.alloc (.cells #[.bool na, .slice A n c] 24)).alloc (.cells #[.bool (!na), .slice B m d] 24)).alloc (.cells #[.bool false, .slice none 0 0] 24) := ⟨_, rfl⟩
  obtain ⟨⟨ca0, ca1, cb0, cb1⟩, ⟨cr0, cr1, fr0, fr1⟩, hbW⟩ := two_boxes w _ _ _ _ _ _ _ W hW
  have hl1 := trim_len hx.wd h1
  have hl2 := trim_len hy.wd h2
  have Hx := Lib.hid hx
  have Hy := Lib.hid hy
  have hH := keep4 ⟨ca0, ca1, cb0, cb1, hbW⟩ (Below.drew (Below.refl _ _))
  have hcmp := fun W' (h1 : Wrd W' A (trim xs).length c (trim xs)) (h2 : Wrd W' B (trim ys).length d (trim ys)) => i_compare A B (trim xs).length (trim ys).length c d (trim xs) (trim ys) W' h1 h2
  rw [cmpW_trim] at hcmp
  obtain ⟨o, ho⟩ : ∃ o, o = ordI (val xs) (val ys) := ⟨_, rfl⟩
  rw [← ho] at hcmp
  have HZ : Hid (toZ na (digs (val (trim xs) - val (trim ys))) = z) := (toZ_add_ge na xs ys hl).trans hz.symm
  have Hcmp := Lib.hid hcmp
  have Ho := Lib.hid ho
  have HM := Lib.hid (fun W' h1 h2 => i_minus A B (trim xs).length (trim ys).length c d (trim xs) (trim ys) W' h1 h2 (by have h3 := val_trim xs; have h4 := val_trim ys; omega) hl1); have ho1 : ¬ o < 0 := by have := ordI_ge (a := (val xs : Int)) (b := val ys) (by omega); omega
  have hb0 : (na == !na) = false := by cases na <;> rfl
  clear hx hy hz hcmp ho
  go_enter Tryz.func71, Tryz.ntmps71
  go_wp2_with fail
  rw [← hW]
  clear hW
  go_region_held3 (fun w' => w'.cell? ⟨w.heap.size, 0, none⟩ = some (.bool na) ∧ w'.cell? ⟨w.heap.size, 1, none⟩ = some (.slice A n c) ∧ w'.cell? ⟨w.heap.size + 1, 0, none⟩ = some (.bool (!na)) ∧ w'.cell? ⟨w.heap.size + 1, 1, none⟩ = some (.slice B m d) ∧ Ext w w')
    (with_reducible first | exact hH | assumption | exact keep4 (by assumption) (by assumption))
    (first
      | ((go_at_call 98; (with_reducible refine (i_trim A n c xs _ (Hx.out.ext (ext4e (by assumption)))).mono ?_); rintro e w' ⟨rfl, rfl⟩))
      | ((go_at_call 98; (with_reducible refine (i_trim B m d ys _ (Hy.out.ext (ext4e (by assumption)))).mono ?_); rintro e w' ⟨rfl, rfl⟩)))
  obtain ⟨W1, hW1⟩ : ∃ W1, W1 = W.drew := ⟨_, rfl⟩
  rw [← hW1] at hH ⊢
  have hEc : Ext W W1 := by rw [hW1]; exact (Ext.refl W).drew
  have hH' := hH
  obtain ⟨d0, d1, e0, e1, hE1⟩ := hH'
  clear hW1
  go_wp2_with (go_at_call 101; (with_reducible refine (Hcmp.out _ (Hx.out.trim.ext hE1) (Hy.out.trim.ext hE1)).mono ?_); rintro e w2 ⟨rfl, q, rfl⟩; have hH := keep4 hH (ext_drewN _ q); have hEc := hEc.trans (ext_drewN _ q))
  generalize W1.drewN q = W2 at *
  have hH2 := keep4 hH (Below.drew (Below.refl _ _))
  have hEd := Ext.drew hEc
  clear d0 d1 e0 e1 hE1 Hcmp hH hEc
  go_region_held3 (fun w' => w'.cell? ⟨w.heap.size, 0, none⟩ = some (.bool na) ∧ w'.cell? ⟨w.heap.size, 1, none⟩ = some (.slice A n c) ∧ w'.cell? ⟨w.heap.size + 1, 0, none⟩ = some (.bool (!na)) ∧ w'.cell? ⟨w.heap.size + 1, 1, none⟩ = some (.slice B m d) ∧ Ext w w')
    (with_reducible first | exact hH2 | assumption | exact keep4 (by assumption) (by assumption) | exact keep4s (by assumption) (by omega) (by dsimp only; omega) (by dsimp only; omega) (by dsimp only; omega) (by dsimp only; omega))
    (first
      | ((go_at_call 102; (with_reducible refine (HM.out _ (Hx.out.trim.ext (ext4e (by assumption))) (Hy.out.trim.ext (ext4e (by assumption)))).mono ?_); rintro e w1 ⟨A1, n1, c1, zs, rfl, hw1, rfl, hb1⟩; have hzz := HZ.out))
      | ((go_at_call 99; (with_reducible refine (i_signed_z hw1 hzz).mono ?_); rintro e w2 ⟨v2, rfl, ⟨A2, n2, c2, rfl, hw2⟩, hb2⟩; have hE2 := Ext.more (Ext.more hEd hb1) hb2; have su0 := kc cr0 hE2; have su1 := kc cr1 hE2; have sf0 := kf cr0 fr0 hE2; have sf1 := kf cr1 fr1 hE2)))
  go_wp2_with fail
  exact bodyPost_ret (v := .agg #[.bool (decide (z < 0)), .slice A2 n2 c2]) (by simp [results, Tryz.results71, go_sem, su0, su1]) rfl (fin_int su0 su1 hw2 (hbW.trans hE2) (by omega))
theorem i_Add (va vb : Value) (na nb : Bool) (xs ys : List Nat) (w : World) (ha : IntR w va na xs) (hb : IntR w vb nb ys) (h1 : xs.length ≤ 2147483648) (h2 : ys.length ≤ 2147483648) :
    Calls Tryz.prog 71 #[va, vb] w (RetInt (toZ na xs + toZ nb ys) w) := by
  by_cases hn : nb = na
  · exact i_Add_eq va vb na nb xs ys w ha hb h1 h2 hn.symm _ rfl
  · by_cases hl : val xs < val ys
    · exact i_Add_lt va vb na nb xs ys w ha hb h1 h2 (not_cases hn) hl _ rfl
    · exact i_Add_ge va vb na nb xs ys w ha hb h1 h2 (not_cases hn) (by omega) _ rfl
end Go.Proofs.YtmpadildchphgaaGreatDoor
namespace Go.Proofs.YtmpadildchphgaaGreatDoor
open Go.RowKit
attribute [local go_sem ↓] Go.wp_at_zero Go.wp_at_succ
end Go.Proofs.YtmpadildchphgaaGreatDoor
namespace Go.Proofs.YtmpadildchphgaaGreatDoor
open Go.RowKit
attribute [local go_sem ↓] Go.wp_at_zero Go.wp_at_succ
theorem box1 (w : World) (a0 a1 : Value) (t : TypeId) (W : World) (hW : W = w.alloc (.cells #[a0, a1] t)) :
    (W.cell? ⟨w.heap.size, 0, none⟩ = some a0 ∧ W.cell? ⟨w.heap.size, 1, none⟩ = some a1) ∧ (W.frozen? ⟨w.heap.size, 0, none⟩ = false ∧ W.frozen? ⟨w.heap.size, 1, none⟩ = false) ∧ Ext w W := by
  refine ⟨?_, ?_, by rw [hW]; exact (Ext.refl w).alloc _⟩
  · subst hW; simp [go_sem]
  · subst hW; simp [go_sem]
set_option maxHeartbeats 800000 in
theorem r1_Sign_zero (va : Value) (na : Bool) (xs : List Nat) (w : World) (ha : IntR w va na xs) (hz : toZ na xs = 0) :
    Calls Tryz.prog 65 #[va] w (RetN (0) w) := by
  obtain ⟨A, n, c, rfl, hx⟩ := ha
  obtain ⟨W, hW⟩ : ∃ W, W = w.alloc (.cells #[.bool na, .slice A n c] 24) := ⟨_, rfl⟩
  obtain ⟨⟨ca0, ca1⟩, ⟨fa0, fa1⟩, hbW⟩ := box1 w _ _ _ W hW
  have hc := r1_Norm _ na xs W (intR_mk (hx.ext hbW))
  obtain ⟨z, hzz⟩ : ∃ z, toZ na xs = z := ⟨_, rfl⟩
  rw [hzz] at hz hc
  have hd : decide (z < 0) = false := by simp; omega
  have Hc := Lib.hid hc
  have Hd := Lib.hid hd
  have Hz := Lib.hid hz
  clear hx hc hd hz hzz
  go_enter Tryz.func65, Tryz.ntmps65
  go_wp2_with fail
  rw [← hW]
  clear hW
  go_wp2_with (go_at_call 91; (with_reducible refine Hc.out.mono ?_); rintro e w1 ⟨v1, rfl, ⟨A1, n1, c1, rfl, hw1⟩, hb1⟩; rw [Hd.out]; have hz := Hz.out; have hn1 := len_zero hw1 (by omega); subst hn1; clear hz; have su0 := kc ca0 hb1; have su1 := kc ca1 hb1; have sf0 := kf ca0 fa0 hb1; have sf1 := kf ca1 fa1 hb1; have hE1 : Ext w w1 := hbW.more hb1)
  go_ret
  exact ⟨rfl, Ext.set2 hE1 (Nat.le_refl _) _ _⟩
set_option maxHeartbeats 800000 in
theorem r1_Sign_neg (va : Value) (na : Bool) (xs : List Nat) (w : World) (ha : IntR w va na xs) (hz : toZ na xs < 0) :
    Calls Tryz.prog 65 #[va] w (RetN (-1) w) := by
  obtain ⟨A, n, c, rfl, hx⟩ := ha
  obtain ⟨W, hW⟩ : ∃ W, W = w.alloc (.cells #[.bool na, .slice A n c] 24) := ⟨_, rfl⟩
  obtain ⟨⟨ca0, ca1⟩, ⟨fa0, fa1⟩, hbW⟩ := box1 w _ _ _ W hW
  have hc := r1_Norm _ na xs W (intR_mk (hx.ext hbW))
  obtain ⟨z, hzz⟩ : ∃ z, toZ na xs = z := ⟨_, rfl⟩
  rw [hzz] at hz hc
  have hd : decide (z < 0) = true := by simp; omega
  have Hc := Lib.hid hc
  have Hd := Lib.hid hd
  have Hz := Lib.hid hz
  clear hx hc hd hz hzz
  go_enter Tryz.func65, Tryz.ntmps65
  go_wp2_with fail
  rw [← hW]
  clear hW
  go_wp2_with (go_at_call 91; (with_reducible refine Hc.out.mono ?_); rintro e w1 ⟨v1, rfl, ⟨A1, n1, c1, rfl, hw1⟩, hb1⟩; rw [Hd.out]; have hz := Hz.out; have hn1 := len_pos hw1 (by omega); have hn2 : ((n1 : Int) == 0) = false := (by simp; omega); clear hz; have su0 := kc ca0 hb1; have su1 := kc ca1 hb1; have sf0 := kf ca0 fa0 hb1; have sf1 := kf ca1 fa1 hb1; have hE1 : Ext w w1 := hbW.more hb1)
  go_ret
  exact ⟨rfl, Ext.set2 hE1 (Nat.le_refl _) _ _⟩
set_option maxHeartbeats 800000 in
theorem r1_Sign_pos (va : Value) (na : Bool) (xs : List Nat) (w : World) (ha : IntR w va na xs) (hz : 0 < toZ na xs) :
    Calls Tryz.prog 65 #[va] w (RetN (1) w) := by
  obtain ⟨A, n, c, rfl, hx⟩ := ha
  obtain ⟨W, hW⟩ : ∃ W, W = w.alloc (.cells #[.bool na, .slice A n c] 24) := ⟨_, rfl⟩
  obtain ⟨⟨ca0, ca1⟩, ⟨fa0, fa1⟩, hbW⟩ := box1 w _ _ _ W hW
  have hc := r1_Norm _ na xs W (intR_mk (hx.ext hbW))
  obtain ⟨z, hzz⟩ : ∃ z, toZ na xs = z := ⟨_, rfl⟩
  rw [hzz] at hz hc
  have hd : decide (z < 0) = false := by simp; omega
  have Hc := Lib.hid hc
  have Hd := Lib.hid hd
  have Hz := Lib.hid hz
  clear hx hc hd hz hzz
  go_enter Tryz.func65, Tryz.ntmps65
  go_wp2_with fail
  rw [← hW]
  clear hW
  go_wp2_with (go_at_call 91; (with_reducible refine Hc.out.mono ?_); rintro e w1 ⟨v1, rfl, ⟨A1, n1, c1, rfl, hw1⟩, hb1⟩; rw [Hd.out]; have hz := Hz.out; have hn1 := len_pos hw1 (by omega); have hn2 : ((n1 : Int) == 0) = false := (by simp; omega); clear hz; have su0 := kc ca0 hb1; have su1 := kc ca1 hb1; have sf0 := kf ca0 fa0 hb1; have sf1 := kf ca1 fa1 hb1; have hE1 : Ext w w1 := hbW.more hb1)
  go_ret
  exact ⟨rfl, Ext.set2 hE1 (Nat.le_refl _) _ _⟩
theorem r1_Sign (va : Value) (na : Bool) (xs : List Nat) (w : World) (ha : IntR w va na xs) :
    Calls Tryz.prog 65 #[va] w (RetN (toZ na xs).sign w) := by
  rcases Int.lt_trichotomy (toZ na xs) 0 with h | h | h
  · rw [Int.sign_eq_neg_one_of_neg h]; exact r1_Sign_neg va na xs w ha h
  · rw [h]; exact r1_Sign_zero va na xs w ha h
  · rw [Int.sign_eq_one_of_pos h]; exact r1_Sign_pos va na xs w ha h
theorem rs_add (za zb : Int) (h : decide (za < 0) = decide (zb < 0)) : toZ (decide (za < 0)) (digs (val (digs za.natAbs) + val (digs zb.natAbs))) = za + zb := by
  unfold toZ; rw [val_digs, val_digs, val_digs]
  by_cases h1 : za < 0 <;> by_cases h2 : zb < 0 <;> simp_all <;> omega
theorem rs_ge (za zb : Int) (h : decide (za < 0) ≠ decide (zb < 0)) (hl : zb.natAbs ≤ za.natAbs) : toZ (decide (za < 0)) (digs (val (digs za.natAbs) - val (digs zb.natAbs))) = za + zb := by
  unfold toZ; rw [val_digs, val_digs, val_digs]
  by_cases h1 : za < 0 <;> by_cases h2 : zb < 0 <;> simp_all <;> omega
theorem rs_lt (za zb : Int) (h : decide (za < 0) ≠ decide (zb < 0)) (hl : za.natAbs < zb.natAbs) : toZ (decide (zb < 0)) (digs (val (digs zb.natAbs) - val (digs za.natAbs))) = za + zb := by
  unfold toZ; rw [val_digs, val_digs, val_digs]
  by_cases h1 : za < 0 <;> by_cases h2 : zb < 0 <;> simp_all <;> omega
theorem normTwo_open {w wx : World} {za zb : Int} (h : NormTwo w za zb wx) {ba bb : Bool} (ha : decide (za < 0) = ba) (hb : decide (zb < 0) = bb) : ∃ A n c B m d,
    (wx.cell? ⟨w.heap.size, 0, none⟩ = some (.bool ba) ∧ wx.cell? ⟨w.heap.size, 1, none⟩ = some (.slice A n c) ∧ wx.cell? ⟨w.heap.size + 1, 0, none⟩ = some (.bool bb) ∧ wx.cell? ⟨w.heap.size + 1, 1, none⟩ = some (.slice B m d) ∧ Ext w wx) ∧
    (wx.cell? ⟨w.heap.size + 1 + 1, 0, none⟩ = some (.bool false) ∧ wx.cell? ⟨w.heap.size + 1 + 1, 1, none⟩ = some (.slice none 0 0) ∧ wx.frozen? ⟨w.heap.size + 1 + 1, 0, none⟩ = false ∧ wx.frozen? ⟨w.heap.size + 1 + 1, 1, none⟩ = false) ∧
    Wrd wx A n c (digs za.natAbs) ∧ Wrd wx B m d (digs zb.natAbs) := by
  subst ha hb
  obtain ⟨A, n, c, B, m, d, ⟨⟨a0, _⟩, ⟨a1, _⟩, ⟨a2, _⟩, ⟨a3, _⟩, ⟨a4, f4⟩, ⟨a5, f5⟩⟩, h1, h2, h3⟩ := h
  exact ⟨A, n, c, B, m, d, ⟨a0, a1, a2, a3, h3⟩, ⟨a4, a5, f4, f5⟩, h1, h2⟩
theorem cmpR {o : Int} {A B : Option Addr} {n m c d : Nat} {a b : Nat} (ho : ordI a b = o) (W : World) (h1 : Wrd W A n c (digs a)) (h2 : Wrd W B m d (digs b)) : Calls Tryz.prog 108 #[.slice A n c, .slice B m d] W (RetN o W) := by
  have := r1_compare A B n m c d (digs a) (digs b) W h1 h2
  rw [cmpW_digs, ho] at this
  exact this.mono fun _ _ ⟨he, q, hq⟩ => ⟨he, hq ▸ ext_drewN _ q⟩
set_option maxHeartbeats 1600000 in
theorem r1_Add_eq (va vb : Value) (na nb ba : Bool) (xs ys : List Nat) (w : World) (ha : IntR w va na xs) (hb : IntR w vb nb ys) (h1 : xs.length ≤ 2147483648) (h2 : ys.length ≤ 2147483648) (hba : decide (toZ na xs < 0) = ba) (hs : decide (toZ nb ys < 0) = ba) :
    Calls Tryz.prog 76 #[va, vb] w (RetInt (toZ na xs + toZ nb ys) w) := by
  obtain ⟨A, n, c, rfl, hx⟩ := ha
  obtain ⟨B, m, d, rfl, hy⟩ := hb
  obtain ⟨W, hW⟩ : ∃ W, W = ((w.alloc (.cells #[.bool na, .slice A n c] 24)).alloc (.cells #[.bool nb, .slice B m d] 24)).alloc (.cells #[.bool false, .slice none 0 0] 24) := ⟨_, rfl⟩
  obtain ⟨hB, hbW⟩ := two_boxesB w _ _ _ _ _ _ _ W hW
  have hw : Ext w W.drew := hbW.drew
  have hB0 := keepB6 hB (Ext.refl W).drew
  clear hB hbW
  have Hx := Lib.hid hx
  have Hy := Lib.hid hy
  have hl1 : (digs (toZ na xs).natAbs).length ≤ 4294967296 := by rw [natAbs_toZ]; exact trim_len hx.wd h1
  have hl2 : (digs (toZ nb ys).natAbs).length ≤ 4294967296 := by rw [natAbs_toZ]; exact trim_len hy.wd h2
  obtain ⟨o, ho⟩ : ∃ o, ordI (toZ na xs).natAbs (toZ nb ys).natAbs = o := ⟨_, rfl⟩
  have ho1 := trivial; have hl := trivial
  obtain ⟨z, hz⟩ : ∃ z, z = toZ na xs + toZ nb ys := ⟨_, rfl⟩
  have hz1 : toZ ba (digs (val (digs (toZ na xs).natAbs) + val (digs (toZ nb ys).natAbs))) = z := (by rw [← hba, hz]; exact rs_add _ _ (hba.trans hs.symm))
  rw [← hz]
  have Hz := Lib.hid hz1
  have Hba := Lib.hid hba
  have Hs := Lib.hid hs
  have Ho := Lib.hid ho
  have Hl := Lib.hid hl
  have hb0 : (ba == !ba) = false := by cases ba <;> rfl
  clear hx hy hz hz1 hba hs ho hl
  go_enter Tryz.func76, Tryz.ntmps76
  go_wp2_with fail
  rw [← hW]
  clear hW
  go_cut [5] (fun _ wx => NormTwo w (toZ na xs) (toZ nb ys) wx)
  case first =>
   go_region_with (first
    | ((go_at_call 91; ((with_reducible refine (r1_Norm _ na xs _ (intR_ext Hx.out (by assumption))).mono ?_); rintro e w1 ⟨v1, rfl, ⟨A1, n1, c1, rfl, hw1⟩, hb1⟩; have hB1 := keepB6 (by assumption) hb1; have hE1 := Ext.more (by assumption) hb1)))
    | ((go_at_call 91; (with_reducible refine (r1_Norm _ nb ys _ (intR_ext Hy.out (by assumption))).mono ?_); rintro e w2 ⟨v2, rfl, ⟨A2, n2, c2, rfl, hw2⟩, hb2⟩; have hB2 := keepB6 (by assumption) hb2; have hE2 := Ext.more (by assumption) hb2)))
   all_goals (go_wp2_with fail; go_meet; first | exact norm_two (by assumption) (Wrd.below (by assumption) (by assumption)) (by assumption) (by assumption) | exact norm_two (by assumption) (by assumption) (Wrd.below (by assumption) (by assumption)) (by assumption))
  case rest =>
    generalize toZ na xs = za at *
    generalize toZ nb ys = zb at *
    obtain ⟨A1, n1, c1, B1, m1, d1, hH, ⟨cr0, cr1, fr0, fr1⟩, hx1, hy1⟩ := normTwo_open hcut Hba.out Hs.out
    have hm1 : n1 ≤ 4294967296 := by rw [← hx1.len]; exact hl1
    have hm2 : m1 ≤ 4294967296 := by rw [← hy1.len]; exact hl2
    have Hx1 := Lib.hid hx1
    have Hy1 := Lib.hid hy1
    have hEw : Ext wc wc := Ext.refl wc
    have hEcw := ext4e hH
    clear hcut hx1 hy1 hw hB0
    have hH' := hH
    obtain ⟨d0, d1', e0, e1, hE1⟩ := hH'
    have Hcmp := Lib.hid (cmpR (A := A1) (B := B1) (n := n1) (m := m1) (c := c1) (d := d1) Ho.out)
    go_wp2_with (go_at_call 108; (with_reducible refine (Hcmp.out _ Hx1.out Hy1.out).mono ?_); rintro e w2 ⟨rfl, hb2⟩; have hH := keep4 hH hb2; have hEw : Ext wc w2 := hb2)
    have hH2 := keep4 hH (Below.drew (Below.refl _ _))
    have hEd := Ext.drew hEw
    have Hx2 := Lib.hid (Hx1.out.ext hEd)
    have Hy2 := Lib.hid (Hy1.out.ext hEd)
    clear d0 d1' e0 e1 hE1 Hcmp hH hEw Hx1 Hy1
    skip
    go_region_held3 (fun w' => w'.cell? ⟨w.heap.size, 0, none⟩ = some (.bool ba) ∧ w'.cell? ⟨w.heap.size, 1, none⟩ = some (.slice A1 n1 c1) ∧ w'.cell? ⟨w.heap.size + 1, 0, none⟩ = some (.bool ba) ∧ w'.cell? ⟨w.heap.size + 1, 1, none⟩ = some (.slice B1 m1 d1) ∧ Ext w w')
      (with_reducible first | exact hH2 | assumption | exact keep4 (by assumption) (by assumption) | exact keep4s (by assumption) (by omega) (by dsimp only; omega) (by dsimp only; omega) (by dsimp only; omega) (by dsimp only; omega))
      (first
        | ((go_at_call 107; (with_reducible refine (r1_plus _ _ _ _ _ _ (digs za.natAbs) (digs zb.natAbs) _ Hx2.out Hy2.out hm1 hm2).mono ?_); rintro e w1 ⟨A3, n3, c3, zs, rfl, hw1, rfl, hb1⟩))
        | ((go_at_call 93; (with_reducible refine (r1_signed_z hw1 Hz.out).mono ?_); rintro e w2 ⟨v2, rfl, ⟨A2, n2, c2, rfl, hw2⟩, hb2⟩; have hE2 := Ext.more (Ext.more hEd hb1) hb2; have su0 := kc cr0 hE2; have su1 := kc cr1 hE2; have sf0 := kf cr0 fr0 hE2; have sf1 := kf cr1 fr1 hE2)))
    go_wp2_with fail
    exact bodyPost_ret (v := .agg #[.bool (decide (z < 0)), .slice A2 n2 c2]) (by simp [results, Tryz.results76, go_sem, su0, su1]) rfl (fin_int su0 su1 hw2 (hEcw.trans hE2) (by omega))
set_option maxHeartbeats 1600000 in
theorem r1_Add_ge (va vb : Value) (na nb ba : Bool) (xs ys : List Nat) (w : World) (ha : IntR w va na xs) (hb : IntR w vb nb ys) (h1 : xs.length ≤ 2147483648) (h2 : ys.length ≤ 2147483648) (hba : decide (toZ na xs < 0) = ba) (hs : decide (toZ nb ys < 0) = !ba) (hl : (toZ nb ys).natAbs ≤ (toZ na xs).natAbs) :
    Calls Tryz.prog 76 #[va, vb] w (RetInt (toZ na xs + toZ nb ys) w) := by
  obtain ⟨A, n, c, rfl, hx⟩ := ha
  obtain ⟨B, m, d, rfl, hy⟩ := hb
  obtain ⟨W, hW⟩ : ∃ W, W = ((w.alloc (.cells #[.bool na, .slice A n c] 24)).alloc (.cells #[.bool nb, .slice B m d] 24)).alloc (.cells #[.bool false, .slice none 0 0] 24) := ⟨_, rfl⟩
  obtain ⟨hB, hbW⟩ := two_boxesB w _ _ _ _ _ _ _ W hW
  have hw : Ext w W.drew := hbW.drew
  have hB0 := keepB6 hB (Ext.refl W).drew
  clear hB hbW
  have Hx := Lib.hid hx
  have Hy := Lib.hid hy
  have hl1 : (digs (toZ na xs).natAbs).length ≤ 4294967296 := by rw [natAbs_toZ]; exact trim_len hx.wd h1
  have hl2 : (digs (toZ nb ys).natAbs).length ≤ 4294967296 := by rw [natAbs_toZ]; exact trim_len hy.wd h2
  obtain ⟨o, ho⟩ : ∃ o, ordI (toZ na xs).natAbs (toZ nb ys).natAbs = o := ⟨_, rfl⟩
  have ho1 : 0 ≤ o := (by have := ordI_ge (a := ((toZ na xs).natAbs : Int)) (b := (toZ nb ys).natAbs) (by omega); omega)
  obtain ⟨z, hz⟩ : ∃ z, z = toZ na xs + toZ nb ys := ⟨_, rfl⟩
  have hz1 : toZ ba (digs (val (digs (toZ na xs).natAbs) - val (digs (toZ nb ys).natAbs))) = z := (by rw [← hba, hz]; exact rs_ge _ _ (by rw [hba, hs]; cases ba <;> simp) hl)
  rw [← hz]
  have Hz := Lib.hid hz1
  have Hba := Lib.hid hba
  have Hs := Lib.hid hs
  have Ho := Lib.hid ho
  have Hl := Lib.hid hl
  have hb0 : (ba == !ba) = false := by cases ba <;> rfl
  clear hx hy hz hz1 hba hs ho hl
  go_enter Tryz.func76, Tryz.ntmps76
  go_wp2_with fail
  rw [← hW]
  clear hW
  go_cut [5] (fun _ wx => NormTwo w (toZ na xs) (toZ nb ys) wx)
  case first =>
   go_region_with (first
    | ((go_at_call 91; ((with_reducible refine (r1_Norm _ na xs _ (intR_ext Hx.out (by assumption))).mono ?_); rintro e w1 ⟨v1, rfl, ⟨A1, n1, c1, rfl, hw1⟩, hb1⟩; have hB1 := keepB6 (by assumption) hb1; have hE1 := Ext.more (by assumption) hb1)))
    | ((go_at_call 91; (with_reducible refine (r1_Norm _ nb ys _ (intR_ext Hy.out (by assumption))).mono ?_); rintro e w2 ⟨v2, rfl, ⟨A2, n2, c2, rfl, hw2⟩, hb2⟩; have hB2 := keepB6 (by assumption) hb2; have hE2 := Ext.more (by assumption) hb2)))
   all_goals (go_wp2_with fail; go_meet; first | exact norm_two (by assumption) (Wrd.below (by assumption) (by assumption)) (by assumption) (by assumption) | exact norm_two (by assumption) (by assumption) (Wrd.below (by assumption) (by assumption)) (by assumption))
  case rest =>
    generalize toZ na xs = za at *
    generalize toZ nb ys = zb at *
    obtain ⟨A1, n1, c1, B1, m1, d1, hH, ⟨cr0, cr1, fr0, fr1⟩, hx1, hy1⟩ := normTwo_open hcut Hba.out Hs.out
    have hm1 : n1 ≤ 4294967296 := by rw [← hx1.len]; exact hl1
    have hm2 : m1 ≤ 4294967296 := by rw [← hy1.len]; exact hl2
    have Hx1 := Lib.hid hx1
    have Hy1 := Lib.hid hy1
    have hEw : Ext wc wc := Ext.refl wc
    have hEcw := ext4e hH
    clear hcut hx1 hy1 hw hB0
    have hH' := hH
    obtain ⟨d0, d1', e0, e1, hE1⟩ := hH'
    have Hcmp := Lib.hid (cmpR (A := A1) (B := B1) (n := n1) (m := m1) (c := c1) (d := d1) Ho.out)
    go_wp2_with (go_at_call 108; (with_reducible refine (Hcmp.out _ Hx1.out Hy1.out).mono ?_); rintro e w2 ⟨rfl, hb2⟩; have hH := keep4 hH hb2; have hEw : Ext wc w2 := hb2)
    have hH2 := keep4 hH (Below.drew (Below.refl _ _))
    have hEd := Ext.drew hEw
    have Hx2 := Lib.hid (Hx1.out.ext hEd)
    have Hy2 := Lib.hid (Hy1.out.ext hEd)
    clear d0 d1' e0 e1 hE1 Hcmp hH hEw Hx1 Hy1
    have HM := Lib.hid (r1_minus _ _ _ _ _ _ _ _ _ Hx2.out Hy2.out (by rw [val_digs, val_digs]; exact Hl.out) hm1)
    go_region_held3 (fun w' => w'.cell? ⟨w.heap.size, 0, none⟩ = some (.bool ba) ∧ w'.cell? ⟨w.heap.size, 1, none⟩ = some (.slice A1 n1 c1) ∧ w'.cell? ⟨w.heap.size + 1, 0, none⟩ = some (.bool (!ba)) ∧ w'.cell? ⟨w.heap.size + 1, 1, none⟩ = some (.slice B1 m1 d1) ∧ Ext w w')
      (with_reducible first | exact hH2 | assumption | exact keep4 (by assumption) (by assumption) | exact keep4s (by assumption) (by omega) (by dsimp only; omega) (by dsimp only; omega) (by dsimp only; omega) (by dsimp only; omega))
      (first
        | ((go_at_call 109; (with_reducible refine HM.out.mono ?_); rintro e w1 ⟨A3, n3, c3, zs, rfl, hw1, rfl, hb1⟩))
        | ((go_at_call 93; (with_reducible refine (r1_signed_z hw1 Hz.out).mono ?_); rintro e w2 ⟨v2, rfl, ⟨A2, n2, c2, rfl, hw2⟩, hb2⟩; have hE2 := Ext.more (Ext.more hEd hb1) hb2; have su0 := kc cr0 hE2; have su1 := kc cr1 hE2; have sf0 := kf cr0 fr0 hE2; have sf1 := kf cr1 fr1 hE2)))
    go_wp2_with fail
    exact bodyPost_ret (v := .agg #[.bool (decide (z < 0)), .slice A2 n2 c2]) (by simp [results, Tryz.results76, go_sem, su0, su1]) rfl (fin_int su0 su1 hw2 (hEcw.trans hE2) (by omega))
set_option maxHeartbeats 1600000 in
theorem r1_Add_lt (va vb : Value) (na nb ba : Bool) (xs ys : List Nat) (w : World) (ha : IntR w va na xs) (hb : IntR w vb nb ys) (h1 : xs.length ≤ 2147483648) (h2 : ys.length ≤ 2147483648) (hba : decide (toZ na xs < 0) = ba) (hs : decide (toZ nb ys < 0) = !ba) (hl : (toZ na xs).natAbs < (toZ nb ys).natAbs) :
    Calls Tryz.prog 76 #[va, vb] w (RetInt (toZ na xs + toZ nb ys) w) := by
  obtain ⟨A, n, c, rfl, hx⟩ := ha
  obtain ⟨B, m, d, rfl, hy⟩ := hb
  obtain ⟨W, hW⟩ : ∃ W, W = ((w.alloc (.cells #[.bool na, .slice A n c] 24)).alloc (.cells #[.bool nb, .slice B m d] 24)).alloc (.cells #[.bool false, .slice none 0 0] 24) := ⟨_, rfl⟩
  obtain ⟨hB, hbW⟩ := two_boxesB w _ _ _ _ _ _ _ W hW
  have hw : Ext w W.drew := hbW.drew
  have hB0 := keepB6 hB (Ext.refl W).drew
  clear hB hbW
  have Hx := Lib.hid hx
  have Hy := Lib.hid hy
  have hl1 : (digs (toZ na xs).natAbs).length ≤ 4294967296 := by rw [natAbs_toZ]; exact trim_len hx.wd h1
  have hl2 : (digs (toZ nb ys).natAbs).length ≤ 4294967296 := by rw [natAbs_toZ]; exact trim_len hy.wd h2
  obtain ⟨o, ho⟩ : ∃ o, ordI (toZ na xs).natAbs (toZ nb ys).natAbs = o := ⟨_, rfl⟩
  have ho1 : ¬ 0 ≤ o := (by have := ordI_lt (a := ((toZ na xs).natAbs : Int)) (b := (toZ nb ys).natAbs) (by omega); omega)
  obtain ⟨z, hz⟩ : ∃ z, z = toZ na xs + toZ nb ys := ⟨_, rfl⟩
  have hz1 : toZ (!ba) (digs (val (digs (toZ nb ys).natAbs) - val (digs (toZ na xs).natAbs))) = z := (by rw [← hs, hz]; exact rs_lt _ _ (by rw [hba, hs]; cases ba <;> simp) hl)
  rw [← hz]
  have Hz := Lib.hid hz1
  have Hba := Lib.hid hba
  have Hs := Lib.hid hs
  have Ho := Lib.hid ho
  have Hl := Lib.hid hl
  have hb0 : (ba == !ba) = false := by cases ba <;> rfl
  clear hx hy hz hz1 hba hs ho hl
  go_enter Tryz.func76, Tryz.ntmps76
  go_wp2_with fail
  rw [← hW]
  clear hW
  go_cut [5] (fun _ wx => NormTwo w (toZ na xs) (toZ nb ys) wx)
  case first =>
   go_region_with (first
    | ((go_at_call 91; ((with_reducible refine (r1_Norm _ na xs _ (intR_ext Hx.out (by assumption))).mono ?_); rintro e w1 ⟨v1, rfl, ⟨A1, n1, c1, rfl, hw1⟩, hb1⟩; have hB1 := keepB6 (by assumption) hb1; have hE1 := Ext.more (by assumption) hb1)))
    | ((go_at_call 91; (with_reducible refine (r1_Norm _ nb ys _ (intR_ext Hy.out (by assumption))).mono ?_); rintro e w2 ⟨v2, rfl, ⟨A2, n2, c2, rfl, hw2⟩, hb2⟩; have hB2 := keepB6 (by assumption) hb2; have hE2 := Ext.more (by assumption) hb2)))
   all_goals (go_wp2_with fail; go_meet; first | exact norm_two (by assumption) (Wrd.below (by assumption) (by assumption)) (by assumption) (by assumption) | exact norm_two (by assumption) (by assumption) (Wrd.below (by assumption) (by assumption)) (by assumption))
  case rest =>
    generalize toZ na xs = za at *
    generalize toZ nb ys = zb at *
    obtain ⟨A1, n1, c1, B1, m1, d1, hH, ⟨cr0, cr1, fr0, fr1⟩, hx1, hy1⟩ := normTwo_open hcut Hba.out Hs.out
    have hm1 : n1 ≤ 4294967296 := by rw [← hx1.len]; exact hl1
    have hm2 : m1 ≤ 4294967296 := by rw [← hy1.len]; exact hl2
    have Hx1 := Lib.hid hx1
    have Hy1 := Lib.hid hy1
    have hEw : Ext wc wc := Ext.refl wc
    have hEcw := ext4e hH
    clear hcut hx1 hy1 hw hB0
    have hH' := hH
    obtain ⟨d0, d1', e0, e1, hE1⟩ := hH'
    have Hcmp := Lib.hid (cmpR (A := A1) (B := B1) (n := n1) (m := m1) (c := c1) (d := d1) Ho.out)
    go_wp2_with (go_at_call 108; (with_reducible refine (Hcmp.out _ Hx1.out Hy1.out).mono ?_); rintro e w2 ⟨rfl, hb2⟩; have hH := keep4 hH hb2; have hEw : Ext wc w2 := hb2)
    have hH2 := keep4 hH (Below.drew (Below.refl _ _))
    have hEd := Ext.drew hEw
    have Hx2 := Lib.hid (Hx1.out.ext hEd)
    have Hy2 := Lib.hid (Hy1.out.ext hEd)
    clear d0 d1' e0 e1 hE1 Hcmp hH hEw Hx1 Hy1
    have HM := Lib.hid (r1_minus _ _ _ _ _ _ _ _ _ Hy2.out Hx2.out (by rw [val_digs, val_digs]; exact Nat.le_of_lt Hl.out) hm2)
    go_region_held3 (fun w' => w'.cell? ⟨w.heap.size, 0, none⟩ = some (.bool ba) ∧ w'.cell? ⟨w.heap.size, 1, none⟩ = some (.slice A1 n1 c1) ∧ w'.cell? ⟨w.heap.size + 1, 0, none⟩ = some (.bool (!ba)) ∧ w'.cell? ⟨w.heap.size + 1, 1, none⟩ = some (.slice B1 m1 d1) ∧ Ext w w')
      (with_reducible first | exact hH2 | assumption | exact keep4 (by assumption) (by assumption) | exact keep4s (by assumption) (by omega) (by dsimp only; omega) (by dsimp only; omega) (by dsimp only; omega) (by dsimp only; omega))
      (first
        | ((go_at_call 109; (with_reducible refine HM.out.mono ?_); rintro e w1 ⟨A3, n3, c3, zs, rfl, hw1, rfl, hb1⟩))
        | ((go_at_call 93; (with_reducible refine (r1_signed_z hw1 Hz.out).mono ?_); rintro e w2 ⟨v2, rfl, ⟨A2, n2, c2, rfl, hw2⟩, hb2⟩; have hE2 := Ext.more (Ext.more hEd hb1) hb2; have su0 := kc cr0 hE2; have su1 := kc cr1 hE2; have sf0 := kf cr0 fr0 hE2; have sf1 := kf cr1 fr1 hE2)))
    go_wp2_with fail
    exact bodyPost_ret (v := .agg #[.bool (decide (z < 0)), .slice A2 n2 c2]) (by simp [results, Tryz.results76, go_sem, su0, su1]) rfl (fin_int su0 su1 hw2 (hEcw.trans hE2) (by omega))
theorem r1_Add (va vb : Value) (na nb : Bool) (xs ys : List Nat) (w : World) (ha : IntR w va na xs) (hb : IntR w vb nb ys) (h1 : xs.length ≤ 2147483648) (h2 : ys.length ≤ 2147483648) :
    Calls Tryz.prog 76 #[va, vb] w (RetInt (toZ na xs + toZ nb ys) w) := by
  by_cases hn : decide (toZ nb ys < 0) = decide (toZ na xs < 0)
  · exact r1_Add_eq va vb na nb _ xs ys w ha hb h1 h2 rfl hn
  · by_cases hl : (toZ na xs).natAbs < (toZ nb ys).natAbs
    · exact r1_Add_lt va vb na nb _ xs ys w ha hb h1 h2 rfl (not_cases hn) hl
    · exact r1_Add_ge va vb na nb _ xs ys w ha hb h1 h2 rfl (not_cases hn) (by omega)
end Go.Proofs.YtmpadildchphgaaGreatDoor
namespace Go.Proofs.YtmpadildchphgaaGreatDoor
open Go.RowKit
attribute [local go_sem ↓] Go.wp_at_zero Go.wp_at_succ
theorem trim_len0 {xs : List Nat} (h : Wd xs) (na : Bool) (k : Nat) (h1 : xs.length ≤ k) : (digs (toZ na xs).natAbs).length ≤ k := by
  rw [natAbs_toZ]; exact Nat.le_trans (trim_length h) h1
theorem IntR.wd {w : World} {v : Value} {na : Bool} {xs : List Nat} (h : IntR w v na xs) : Wd xs := by
  obtain ⟨_, _, _, _, h⟩ := h
  exact h.wd
set_option maxHeartbeats 800000 in
theorem r1_Sub (va vb : Value) (na nb : Bool) (xs ys : List Nat) (w : World) (ha : IntR w va na xs) (hb : IntR w vb nb ys) (h1 : xs.length ≤ 2147483648) (h2 : ys.length ≤ 2147483648) :
    Calls Tryz.prog 137 #[va, vb] w (RetInt (toZ na xs - toZ nb ys) w) := by
  have hl2 : (digs (-toZ nb ys).natAbs).length ≤ 2147483648 := by rw [Int.natAbs_neg]; exact trim_len0 hb.wd nb _ h2
  obtain ⟨A, n, c, rfl, hx⟩ := ha
  obtain ⟨B, m, d, rfl, hy⟩ := hb
  obtain ⟨W, hW⟩ : ∃ W, W = ((w.alloc (.cells #[.bool na, .slice A n c] 24)).alloc (.cells #[.bool nb, .slice B m d] 24)).alloc (.cells #[.bool false, .slice none 0 0] 24) := ⟨_, rfl⟩
  obtain ⟨⟨ca0, ca1, cb0, cb1⟩, ⟨cr0, cr1, fr0, fr1⟩, hbW⟩ := two_boxes w _ _ _ _ _ _ _ W hW
  have hH := keep4 ⟨ca0, ca1, cb0, cb1, hbW⟩ (Below.drew (Below.refl _ _))
  have hEd : Ext W W.drew := (Ext.refl W).drew
  obtain ⟨z, hz⟩ : ∃ z, z = toZ na xs - toZ nb ys := ⟨_, rfl⟩
  rw [← hz]
  have hz' : toZ na xs + -toZ nb ys = z := by omega
  have HA := fun W' v (h : IntR W' (.agg #[.bool na, .slice A n c]) na xs) (h' : IntV W' v (-toZ nb ys)) => by
    have := r1_Add _ _ na _ xs _ W' h h' h1 hl2
    rw [toZ_int, hz'] at this
    exact this
  have HA := Lib.hid HA
  have Hx := Lib.hid hx
  have Hy := Lib.hid hy
  clear hx hy hz hz' hl2
  go_enter Tryz.func137, Tryz.ntmps137
  go_wp2_with fail
  rw [← hW]
  clear hW
  go_region_held3 (fun w' => w'.cell? ⟨w.heap.size, 0, none⟩ = some (.bool na) ∧ w'.cell? ⟨w.heap.size, 1, none⟩ = some (.slice A n c) ∧ w'.cell? ⟨w.heap.size + 1, 0, none⟩ = some (.bool nb) ∧ w'.cell? ⟨w.heap.size + 1, 1, none⟩ = some (.slice B m d) ∧ Ext w w')
    (with_reducible first | exact hH | assumption | exact keep4 (by assumption) (by assumption) | exact keep4s (by assumption) (by omega) (by dsimp only; omega) (by dsimp only; omega) (by dsimp only; omega) (by dsimp only; omega))
    (first
      | ((go_at_call 96; (with_reducible refine (r1_Neg _ nb ys _ (intR_ext Hy.out (ext4e hH))).mono ?_); rintro e w1 ⟨v1, rfl, hv1, hb1⟩; have hH1 := keep4 hH hb1; have hE1 := Ext.more hEd hb1))
      | ((go_at_call 76; (with_reducible refine (HA.out _ _ (intR_ext Hx.out (ext4e hH1)) hv1).mono ?_); rintro e w2 ⟨v2, rfl, ⟨A2, n2, c2, rfl, hw2⟩, hb2⟩; have hE2 := Ext.more hE1 hb2; have su0 := kc cr0 hE2; have su1 := kc cr1 hE2; have sf0 := kf cr0 fr0 hE2; have sf1 := kf cr1 fr1 hE2)))
  go_wp2_with fail
  exact bodyPost_ret (v := .agg #[.bool (decide (z < 0)), .slice A2 n2 c2]) (by simp [results, Tryz.results137, go_sem, su0, su1]) rfl (fin_int su0 su1 hw2 (hbW.trans hE2) (by omega))
theorem r1_SignV {v : Value} {z : Int} {w : World} (h : IntV w v z) : Calls Tryz.prog 65 #[v] w (RetN z.sign w) := by
  have := r1_Sign v _ _ w h
  rwa [toZ_int] at this
end Go.Proofs.YtmpadildchphgaaGreatDoor
