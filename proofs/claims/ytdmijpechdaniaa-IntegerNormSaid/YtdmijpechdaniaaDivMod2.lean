/- DivMod of the program, where the quotient is rounded down. -/
import Derived.Test.YtdmijpechdaniaaDivMod
namespace Go.Proofs.Ytdmijpechdaniaa
open Go.RowKit
attribute [local go_sem ↓] Go.wp_at_zero Go.wp_at_succ

theorem one_word (w : World) : Wrd (w.alloc (.cells #[.int .u32 1] 47)) (some ⟨w.heap.size, 0, none⟩) 1 1 [1] := by
  have hr : Row (w.alloc (.cells #[.int .u32 1] 47)) w.heap.size [1] := by
    have := heap_alloc_new w (.cells #[.int .u32 1] 47)
    unfold Row
    rw [this]
    simp
  exact hr.wrd' (n := 1) (Wd.cons (by decide) Wd.nil) rfl (by decide)

set_option maxHeartbeats 1600000 in
theorem i_DivMod_adj (va vb : Value) (na nb : Bool) (xs ys : List Nat) (w : World) (ha : IntR w va na xs) (hb : IntR w vb nb ys) 
    (hok : DivOk (val xs) (val ys)) (hy0 : val ys ≠ 0) (hn : nb = !na) (hr0 : val xs % val ys ≠ 0) (h1 : xs.length ≤ 2147483648) (h2 : ys.length ≤ 2147483648) (q r : Int) (hq : toZ true (digs (val xs / val ys + 1)) = q) (hr : toZ nb (digs (val ys - val xs % val ys)) = r) :
    Calls Try.prog 17 #[va, vb] w (RetDM q r w) := by
  obtain ⟨A, n, c, rfl, hx⟩ := ha
  obtain ⟨B, m, d, rfl, hy⟩ := hb
  obtain ⟨W, hW⟩ : ∃ W, W = (((w.alloc (.cells #[.bool na, .slice A n c] 24)).alloc (.cells #[.bool nb, .slice B m d] 24)).alloc (.cells #[.bool false, .slice none 0 0] 24)).alloc (.cells #[.bool false, .slice none 0 0] 24) := ⟨_, rfl⟩
  obtain ⟨⟨ca0, ca1, cb0, cb1⟩, ⟨cq0, cq1, fq0, fq1⟩, ⟨cr0, cr1, fr0, fr1⟩, hbW⟩ := four_boxes w _ _ _ _ _ _ _ _ _ W hW
  have hyl : (trim ys).length ≠ 0 := fun e => hy0 (by rw [← val_trim ys, List.eq_nil_of_length_eq_zero e]; rfl)
  obtain ⟨m1, hm1⟩ : ∃ m1, m1 = (trim ys).length := ⟨_, rfl⟩
  have hm0 : ((m1 : Int) == 0) = false := by simp; omega
  have Hx := Lib.hid (hx.ext hbW)
  have Hy := Lib.hid (hy.ext hbW)
  have Hm1 := Lib.hid hm1
  have Hyt := Lib.hid (show Wrd W B m1 d (trim ys) from hm1 ▸ (hy.ext hbW).trim)
  have hcall : Calls Try.prog 53 #[.slice A (trim xs).length c, .slice B m1 d] W (RetQR (val xs / val ys) (val xs % val ys) W) := hok _ _ _ _ _ _ W (hx.ext hbW).trim (hm1 ▸ (hy.ext hbW).trim)
  have Hcall := Lib.hid hcall
  have Hq := Lib.hid hq
  have Hr := Lib.hid hr
  have Hr0 := Lib.hid hr0
  have hm1' : m1 ≤ 4294967296 := by rw [hm1]; exact trim_len hy.wd h2
  have hqb : (digs (val xs / val ys)).length ≤ 4294967296 := by
    have h3 := digs_length_le (Nat.lt_of_le_of_lt (Nat.div_le_self (val xs) (val ys)) (val_lt hx.wd))
    omega
  have hle : val (digs (val xs % val ys)) ≤ val (trim ys) := by rw [val_digs, val_trim]; exact Nat.le_of_lt (Nat.mod_lt _ (by omega))
  have Hle := Lib.hid hle
  clear hle
  clear hx hy hok hq hr hm1 hyl hcall
  subst hn
  go_enter Try.func17, Try.ntmps17
  go_wp2_with fail
  rw [← hW]
  clear hW
  go_wp2_with (first
    | (go_at_call 50; (with_reducible refine (i_trim B m d ys _ Hy.out).mono ?_); rw [← Hm1.out]; rintro e w' ⟨rfl, rfl⟩)
    | (go_at_call 50; (with_reducible refine (i_trim A n c xs _ Hx.out).mono ?_); rintro e w' ⟨rfl, rfl⟩)
    | (go_at_call 53; (with_reducible refine Hcall.out.mono ?_); rintro e w1 ⟨A1, n1, c1, B1, m2, d1, rfl, hw1, hw2, hb1⟩; have hEb : Ext W w1 := hb1; have ya0 := kc ca0 hb1; have yb0 := kc cb0 hb1; have hm2 : 0 < m2 := len_pos hw2 Hr0.out; have hm2' : (0 : Int) < m2 := by omega)
    | (go_at_call 54; (with_reducible refine (i_plus A1 (some ⟨w1.heap.size, 0, none⟩) n1 1 c1 1 (digs (val xs / val ys)) [1] _ (hw1.ext ((Ext.refl w1).alloc _)) (one_word w1) (by rw [← hw1.len]; exact hqb) (by decide)).mono ?_); rintro e w4 ⟨A4, n4, c4, zs, rfl, hw4, ⟨hv4, _⟩, hb4⟩; have hE4 := ((Ext.refl w1).alloc (.cells #[.int .u32 1] 47)).more hb4)
    | (go_at_call 55; (with_reducible refine (i_minus B B1 m1 m2 d d1 (trim ys) (digs (val xs % val ys)) _ (Hyt.out.ext (Ext.trans hEb hE4)) (hw2.ext hE4) Hle.out hm1').mono ?_); rintro e w5 ⟨A5, n5, c5, rs, rfl, hw5, hrs, hb5⟩; have hE5 := Ext.trans hb1 (hE4.more hb5); have xa0 := kc ca0 hE5; have xb0 := kc cb0 hE5; have xq0 := kc cq0 hE5; have xq1 := kc cq1 hE5; have xr0 := kc cr0 hE5; have xr1 := kc cr1 hE5; have gq0 := kf cq0 fq0 hE5; have gq1 := kf cq1 fq1 hE5; have gr0 := kf cr0 fr0 hE5; have gr1 := kf cr1 fr1 hE5))
  have hH := (⟨xa0, xb0, hw4.below hb5, hw5, Slot.mk xq0 xq1 gq0 gq1, Slot.mk xr0 xr1 gr0 gr1, hbW.trans hE5⟩ : DmHeld w na (!na) A4 n4 c4 zs A5 n5 c5 rs w5)
  unfold DmHeld at hH
  have hH := dm_below hH (Below.drew (Below.refl _ _))
  have hq1 : toZ true zs = q := by rw [← Hq.out]; unfold toZ; rw [val_digs, hv4, val_digs]; rfl
  have hr1 : toZ (!na) rs = r := by rw [← Hr.out, hrs, val_digs, val_trim]
  have Hq := Lib.hid hq1
  have Hr := Lib.hid hr1
  clear hEb ya0 yb0 hw4 hw5 hE5 hE4 hb4 hb5 hrs hv4 Hle Hr0 Hyt hq1 hr1 hw1 hw2 hb1 hbW ca0 ca1 cb0 cb1 cq0 cq1 fq0 fq1 cr0 cr1 fr0 fr1 Hx Hy Hcall
  go_region_held3 (fun w' => w'.cell? ⟨w.heap.size, 0, none⟩ = some (.bool na) ∧ w'.cell? ⟨w.heap.size + 1, 0, none⟩ = some (.bool (!na)) ∧ DmRest w A4 n4 c4 zs A5 n5 c5 rs w')
    (with_reducible first | assumption | exact dm_below (by assumption) (by assumption) | exact dm_setq (by assumption) _ _ _ _ | exact dm_setr (by assumption) _ _ _ _)
    (first
      | ((go_at_call 48; (with_reducible refine (i_signed_z (xs := zs) (dm_q (by assumption)) Hq.out).mono ?_); rintro e w6 ⟨v2, rfl, ⟨A2, n2, c2, rfl, hw6⟩, hb6⟩; have hq2 := dm_below (by with_reducible assumption) hb6; obtain ⟨⟨uq0, uq1, su0, su1, su2, su3, sn0, sn1⟩, ⟨ur0, ur1, sv0, sv1, sv2, sv3, sn2, sn3⟩⟩ := dm_slots hq2; clear sn0 sn1 sn2 sn3))
      | ((go_at_call 48; (with_reducible refine (i_signed_z (xs := rs) (dm_r (by assumption)) Hr.out).mono ?_); rintro e w3 ⟨v3, rfl, ⟨A3, n3, c3, rfl, hw3⟩, hb3⟩; have hr3 := dm_below (by with_reducible assumption) hb3; obtain ⟨⟨vq0, vq1, tu0, tu1, tu2, tu3, tn0, tn1⟩, ⟨vr0, vr1, tv0, tv1, tv2, tv3, tn2, tn3⟩⟩ := dm_slots hr3; clear tn0 tn1 tn2 tn3)))
  all_goals (
    have hE : Ext w _ := dm_ext (by with_reducible assumption)
    go_wp2_with fail
    refine dm_close (rq := w.heap.size + 1 + 1) (rr := w.heap.size + 1 + 1 + 1) (q := q) (r := r) ?_ ?_
    · first
        | (with_reducible exact fin12 (Wrd.below (by assumption) (by assumption)) (by assumption) (dm_slots (by assumption)) (by omega))
        | (with_reducible exact fin12 (by assumption) (Wrd.below (by assumption) (by assumption)) (dm_slots (by assumption)) (by omega))
        | (with_reducible exact swap_done (fin12 (Wrd.below (by assumption) (by assumption)) (by assumption) (swap_slots (dm_slots (by assumption))) (by omega)))
        | (with_reducible exact swap_done (fin12 (by assumption) (Wrd.below (by assumption) (by assumption)) (swap_slots (dm_slots (by assumption))) (by omega)))
        | (with_reducible exact fin1_2 (by assumption) (dm_slots (by assumption)) (by assumption) (by assumption) (dm_slots (by assumption)) (by omega))
        | (with_reducible exact swap_done (fin1_2 (by assumption) (swap_slots (dm_slots (by assumption))) (by assumption) (by assumption) (swap_slots (dm_slots (by assumption))) (by omega)))
    · intro A8 n8 c8 B8 m8 d8 x0 x1 x2 y0 y1 y2
      exact bodyPost_ret (v := .tuple #[.agg #[.bool (decide (q < 0)), .slice A8 n8 c8], .agg #[.bool (decide (r < 0)), .slice B8 m8 d8], .int .i64 0]) (by simp [results, Try.results17, go_sem, x0, x1, y0, y1]) rfl ⟨_, _, rfl, ⟨_, _, _, rfl, x2⟩, ⟨_, _, _, rfl, y2⟩, hE⟩)

end Go.Proofs.Ytdmijpechdaniaa
