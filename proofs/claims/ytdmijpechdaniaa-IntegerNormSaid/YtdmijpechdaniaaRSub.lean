/- Sub and Cmp of the reference; the sums' law. -/
import Derived.Test.YtdmijpechdaniaaRAdd
namespace Go.Proofs.Ytdmijpechdaniaa
open Go.RowKit
attribute [local go_sem ↓] Go.wp_at_zero Go.wp_at_succ

theorem trim_len0 {xs : List Nat} (h : Wd xs) (na : Bool) (k : Nat) (h1 : xs.length ≤ k) : (digs (toZ na xs).natAbs).length ≤ k := by
  rw [natAbs_toZ]; exact Nat.le_trans (trim_length h) h1
theorem IntR.wd {w : World} {v : Value} {na : Bool} {xs : List Nat} (h : IntR w v na xs) : Wd xs := by
  obtain ⟨_, _, _, _, h⟩ := h
  exact h.wd

set_option maxHeartbeats 800000 in
theorem r1_Sub (va vb : Value) (na nb : Bool) (xs ys : List Nat) (w : World) (ha : IntR w va na xs) (hb : IntR w vb nb ys) (h1 : xs.length ≤ 2147483648) (h2 : ys.length ≤ 2147483648) :
    Calls Try.prog 43 #[va, vb] w (RetInt (toZ na xs - toZ nb ys) w) := by
  have hl2 : (digs (-toZ nb ys).natAbs).length ≤ 2147483648 := by rw [Int.natAbs_neg]; exact trim_len0 hb.wd nb _ h2
  obtain ⟨A, n, c, rfl, hx⟩ := ha
  obtain ⟨B, m, d, rfl, hy⟩ := hb
  obtain ⟨W, hW⟩ : ∃ W, W = ((w.alloc (.cells #[.bool na, .slice A n c] 24)).alloc (.cells #[.bool nb, .slice B m d] 24)).alloc (.cells #[.bool false, .slice none 0 0] 24) := ⟨_, rfl⟩
  obtain ⟨⟨ca0, ca1, cb0, cb1⟩, ⟨cr0, cr1, fr0, fr1⟩, hbW⟩ := two_boxes w _ _ _ _ _ _ _ W hW
  have hH := keep4 ⟨ca0, ca1, cb0, cb1, hbW⟩ (Below.drew (Below.refl _ _))
  have hEd : Ext W W.drew := (Ext.refl W).drew
  obtain ⟨z, hz⟩ : ∃ z, z = toZ na xs - toZ nb ys := ⟨_, rfl⟩
  rw [← hz]
  have hz' : toZ na xs + -toZ nb ys = z := by omega
  have HA := fun W' v (h : IntR W' (.agg #[.bool na, .slice A n c]) na xs) (h' : IntV W' v (-toZ nb ys)) => by
    have := r1_Add _ _ na _ xs _ W' h h' h1 hl2
    rw [toZ_int, hz'] at this
    exact this
  have HA := Lib.hid HA
  have Hx := Lib.hid hx
  have Hy := Lib.hid hy
  clear hx hy hz hz' hl2
  go_enter Try.func43, Try.ntmps43
  go_wp2_with fail
  rw [← hW]
  clear hW
  go_region_held3 (fun w' => w'.cell? ⟨w.heap.size, 0, none⟩ = some (.bool na) ∧ w'.cell? ⟨w.heap.size, 1, none⟩ = some (.slice A n c) ∧ w'.cell? ⟨w.heap.size + 1, 0, none⟩ = some (.bool nb) ∧ w'.cell? ⟨w.heap.size + 1, 1, none⟩ = some (.slice B m d) ∧ Ext w w')
    (with_reducible first | exact hH | assumption | exact keep4 (by assumption) (by assumption) | exact keep4s (by assumption) (by omega) (by dsimp only; omega) (by dsimp only; omega) (by dsimp only; omega) (by dsimp only; omega))
    (first
      | ((go_at_call 45; (with_reducible refine (r1_Neg _ nb ys _ (intR_ext Hy.out (ext4e hH))).mono ?_); rintro e w1 ⟨v1, rfl, hv1, hb1⟩; have hH1 := keep4 hH hb1; have hE1 := Ext.more hEd hb1))
      | ((go_at_call 19; (with_reducible refine (HA.out _ _ (intR_ext Hx.out (ext4e hH1)) hv1).mono ?_); rintro e w2 ⟨v2, rfl, ⟨A2, n2, c2, rfl, hw2⟩, hb2⟩; have hE2 := Ext.more hE1 hb2; have su0 := kc cr0 hE2; have su1 := kc cr1 hE2; have sf0 := kf cr0 fr0 hE2; have sf1 := kf cr1 fr1 hE2)))
  go_wp2_with fail
  exact bodyPost_ret (v := .agg #[.bool (decide (z < 0)), .slice A2 n2 c2]) (by simp [results, Try.results43, go_sem, su0, su1]) rfl (fin_int su0 su1 hw2 (hbW.trans hE2) (by omega))

theorem ordI_sub (a b : Int) : (a - b).sign = ordI a b := by
  unfold ordI
  rcases Int.lt_trichotomy a b with h | h | h
  · rw [if_pos h, Int.sign_eq_neg_one_of_neg (by omega)]
  · subst h; simp
  · rw [if_neg (by omega), if_pos h, Int.sign_eq_one_of_pos (by omega)]
theorem r1_SignV {v : Value} {z : Int} {w : World} (h : IntV w v z) : Calls Try.prog 24 #[v] w (RetN z.sign w) := by
  have := r1_Sign v _ _ w h
  rwa [toZ_int] at this
set_option maxHeartbeats 800000 in
theorem r1_Cmp (va vb : Value) (na nb : Bool) (xs ys : List Nat) (w : World) (ha : IntR w va na xs) (hb : IntR w vb nb ys) (h1 : xs.length ≤ 2147483648) (h2 : ys.length ≤ 2147483648) :
    Calls Try.prog 27 #[va, vb] w (RetN (ordI (toZ na xs) (toZ nb ys)) w) := by
  obtain ⟨A, n, c, rfl, hx⟩ := ha
  obtain ⟨B, m, d, rfl, hy⟩ := hb
  obtain ⟨W, hW⟩ : ∃ W, W = (w.alloc (.cells #[.bool na, .slice A n c] 24)).alloc (.cells #[.bool nb, .slice B m d] 24) := ⟨_, rfl⟩
  obtain ⟨⟨ca0, ca1, cb0, cb1⟩, hbW⟩ := two_args w _ _ _ _ _ W hW
  have hs := r1_Sub _ _ na nb xs ys W (intR_mk (hx.ext hbW)) (intR_mk (hy.ext hbW)) h1 h2
  rw [← ordI_sub]
  obtain ⟨z, hz⟩ : ∃ z, z = toZ na xs - toZ nb ys := ⟨_, rfl⟩
  rw [← hz] at hs ⊢
  have Hs := Lib.hid hs
  clear hx hy hs hz
  go_enter Try.func27, Try.ntmps27
  go_wp2_with fail
  rw [← hW]
  clear hW
  go_wp2_with (first
    | (go_at_call 43; (with_reducible refine Hs.out.mono ?_); rintro e w1 ⟨v1, rfl, hv1, hb1⟩)
    | (go_at_call 24; (with_reducible refine (r1_SignV hv1).mono ?_); rintro e w2 ⟨rfl, hb2⟩))
  go_ret
  exact ⟨rfl, (hbW.more hb1).more hb2⟩

end Go.Proofs.Ytdmijpechdaniaa
