/- Mul of the reference. -/
import Derived.Test.YtdmijpechdaniaaInts1
import Derived.Deep.RegionWith
import Derived.Deep.DeepCutAuto
namespace Go.Proofs.Ytdmijpechdaniaa
open Go.RowKit
attribute [local go_sem ↓] Go.wp_at_zero Go.wp_at_succ

theorem two_boxesB (w : World) (a0 a1 b0 b1 r0 r1 : Value) (t : TypeId) (W : World) (hW : W = ((w.alloc (.cells #[a0, a1] t)).alloc (.cells #[b0, b1] t)).alloc (.cells #[r0, r1] t)) :
    ((W.cell? ⟨w.heap.size, 0, none⟩ = some a0 ∧ W.frozen? ⟨w.heap.size, 0, none⟩ = false) ∧ (W.cell? ⟨w.heap.size, 1, none⟩ = some a1 ∧ W.frozen? ⟨w.heap.size, 1, none⟩ = false) ∧
     (W.cell? ⟨w.heap.size + 1, 0, none⟩ = some b0 ∧ W.frozen? ⟨w.heap.size + 1, 0, none⟩ = false) ∧ (W.cell? ⟨w.heap.size + 1, 1, none⟩ = some b1 ∧ W.frozen? ⟨w.heap.size + 1, 1, none⟩ = false) ∧
     (W.cell? ⟨w.heap.size + 1 + 1, 0, none⟩ = some r0 ∧ W.frozen? ⟨w.heap.size + 1 + 1, 0, none⟩ = false) ∧ (W.cell? ⟨w.heap.size + 1 + 1, 1, none⟩ = some r1 ∧ W.frozen? ⟨w.heap.size + 1 + 1, 1, none⟩ = false)) ∧ Ext w W := by
  obtain ⟨_, _, h2⟩ := two_boxes w a0 a1 b0 b1 r0 r1 t W hW
  refine ⟨?_, h2⟩
  subst hW
  simp [go_sem]

/-- behind 'a, b = Norm(a), Norm(b)': both places hold the normal forms; the result's place is as it was -/
def NormTwo (w : World) (za zb : Int) (wx : World) : Prop := ∃ A n c B m d,
  ((wx.cell? ⟨w.heap.size, 0, none⟩ = some (.bool (decide (za < 0))) ∧ wx.frozen? ⟨w.heap.size, 0, none⟩ = false) ∧ (wx.cell? ⟨w.heap.size, 1, none⟩ = some (.slice A n c) ∧ wx.frozen? ⟨w.heap.size, 1, none⟩ = false) ∧
   (wx.cell? ⟨w.heap.size + 1, 0, none⟩ = some (.bool (decide (zb < 0))) ∧ wx.frozen? ⟨w.heap.size + 1, 0, none⟩ = false) ∧ (wx.cell? ⟨w.heap.size + 1, 1, none⟩ = some (.slice B m d) ∧ wx.frozen? ⟨w.heap.size + 1, 1, none⟩ = false) ∧
   (wx.cell? ⟨w.heap.size + 1 + 1, 0, none⟩ = some (.bool false) ∧ wx.frozen? ⟨w.heap.size + 1 + 1, 0, none⟩ = false) ∧ (wx.cell? ⟨w.heap.size + 1 + 1, 1, none⟩ = some (.slice none 0 0) ∧ wx.frozen? ⟨w.heap.size + 1 + 1, 1, none⟩ = false)) ∧
  Wrd wx A n c (digs za.natAbs) ∧ Wrd wx B m d (digs zb.natAbs) ∧ Ext w wx

theorem cell_set_same {w : World} {p : Addr} {v u : Value} (h : w.cell? p = some v) : (w.setCell p u).cell? p = some u := World.cell?_setCell_same' _ _ _ (by rw [h]; rfl)

theorem norm_two {w w2 : World} {za zb : Int} {na nb : Bool} {A B A1 B1 : Option Addr} {n c m d n1 c1 m1 d1 : Nat}
    (hB : (w2.cell? ⟨w.heap.size, 0, none⟩ = some (.bool na) ∧ w2.frozen? ⟨w.heap.size, 0, none⟩ = false) ∧ (w2.cell? ⟨w.heap.size, 1, none⟩ = some (.slice A1 n1 c1) ∧ w2.frozen? ⟨w.heap.size, 1, none⟩ = false) ∧
      (w2.cell? ⟨w.heap.size + 1, 0, none⟩ = some (.bool nb) ∧ w2.frozen? ⟨w.heap.size + 1, 0, none⟩ = false) ∧ (w2.cell? ⟨w.heap.size + 1, 1, none⟩ = some (.slice B1 m1 d1) ∧ w2.frozen? ⟨w.heap.size + 1, 1, none⟩ = false) ∧
      (w2.cell? ⟨w.heap.size + 1 + 1, 0, none⟩ = some (.bool false) ∧ w2.frozen? ⟨w.heap.size + 1 + 1, 0, none⟩ = false) ∧ (w2.cell? ⟨w.heap.size + 1 + 1, 1, none⟩ = some (.slice none 0 0) ∧ w2.frozen? ⟨w.heap.size + 1 + 1, 1, none⟩ = false))
    (hx : Wrd w2 A n c (digs za.natAbs)) (hy : Wrd w2 B m d (digs zb.natAbs)) (hE : Ext w w2) :
    NormTwo w za zb ((((w2.setCell ⟨w.heap.size, 0, none⟩ (.bool (decide (za < 0)))).setCell ⟨w.heap.size, 1, none⟩ (.slice A n c)).setCell ⟨w.heap.size + 1, 0, none⟩ (.bool (decide (zb < 0)))).setCell ⟨w.heap.size + 1, 1, none⟩ (.slice B m d)) := by
  obtain ⟨⟨a0, f0⟩, ⟨a1, f1⟩, ⟨a2, f2⟩, ⟨a3, f3⟩, ⟨a4, f4⟩, ⟨a5, f5⟩⟩ := hB
  have b1 := cell_far a1 (u := .bool (decide (za < 0))) (q := ⟨w.heap.size, 0, none⟩) (by simp)
  have b2 := cell_far (cell_far a2 (u := .bool (decide (za < 0))) (q := ⟨w.heap.size, 0, none⟩) (by simp)) (u := .slice A n c) (q := ⟨w.heap.size, 1, none⟩) (by simp)
  have b3 := cell_far (cell_far (cell_far a3 (u := .bool (decide (za < 0))) (q := ⟨w.heap.size, 0, none⟩) (by simp)) (u := .slice A n c) (q := ⟨w.heap.size, 1, none⟩) (by simp)) (u := .bool (decide (zb < 0))) (q := ⟨w.heap.size + 1, 0, none⟩) (by simp)
  have far : ∀ {p : Addr} {v : Value}, w2.cell? p = some v → p.block ≠ w.heap.size → p.block ≠ w.heap.size + 1 →
      ((((w2.setCell ⟨w.heap.size, 0, none⟩ (.bool (decide (za < 0)))).setCell ⟨w.heap.size, 1, none⟩ (.slice A n c)).setCell ⟨w.heap.size + 1, 0, none⟩ (.bool (decide (zb < 0)))).setCell ⟨w.heap.size + 1, 1, none⟩ (.slice B m d)).cell? p = some v := by
    intro p v hp h1 h2
    exact cell_far2 (cell_far2 hp h1) h2
  have fr : ∀ p, ((((w2.setCell ⟨w.heap.size, 0, none⟩ (.bool (decide (za < 0)))).setCell ⟨w.heap.size, 1, none⟩ (.slice A n c)).setCell ⟨w.heap.size + 1, 0, none⟩ (.bool (decide (zb < 0)))).setCell ⟨w.heap.size + 1, 1, none⟩ (.slice B m d)).frozen? p = w2.frozen? p := by
    intro p
    rw [World.frozen?_setCell, World.frozen?_setCell, World.frozen?_setCell, World.frozen?_setCell]
  have st : ∀ {A' : Option Addr} {n' c' : Nat} {us : List Nat}, Wrd w2 A' n' c' us →
      Wrd ((((w2.setCell ⟨w.heap.size, 0, none⟩ (.bool (decide (za < 0)))).setCell ⟨w.heap.size, 1, none⟩ (.slice A n c)).setCell ⟨w.heap.size + 1, 0, none⟩ (.bool (decide (zb < 0)))).setCell ⟨w.heap.size + 1, 1, none⟩ (.slice B m d)) A' n' c' us := by
    intro A' n' c' us h
    exact (((h.store a0 (by intro x; simp) _).store b1 (by intro x; simp) _).store b2 (by intro x; simp) _).store b3 (by intro x; simp) _
  refine ⟨A, n, c, B, m, d, ⟨⟨?_, (fr _).trans f0⟩, ⟨?_, (fr _).trans f1⟩, ⟨?_, (fr _).trans f2⟩, ⟨cell_set_same b3, (fr _).trans f3⟩, ⟨far a4 (by dsimp only; omega) (by dsimp only; omega), (fr _).trans f4⟩, ⟨far a5 (by dsimp only; omega) (by dsimp only; omega), (fr _).trans f5⟩⟩, st hx, st hy,
    (((hE.set (p := ⟨w.heap.size, 0, none⟩) (Nat.le_refl _) _).set (p := ⟨w.heap.size, 1, none⟩) (Nat.le_refl _) _).set (p := ⟨w.heap.size + 1, 0, none⟩) (by dsimp only; omega) _).set (p := ⟨w.heap.size + 1, 1, none⟩) (by dsimp only; omega) _⟩
  · exact cell_far2 (cell_far (cell_set_same a0) (by simp)) (by dsimp only; omega)
  · exact cell_far2 (cell_set_same b1) (by dsimp only; omega)
  · exact cell_far (cell_set_same b2) (by simp)

theorem mul_signs (za zb : Int) : toZ (!(decide (za < 0) == decide (zb < 0))) (digs (val (digs za.natAbs) * val (digs zb.natAbs))) = za * zb := by
  rw [val_digs, val_digs]
  have key : ∀ x : Int, (if decide (x < 0) then -(x.natAbs : Int) else (x.natAbs : Int)) = x := by
    intro x
    by_cases h : x < 0 <;> simp [h] <;> omega
  have h1 := key za
  have h2 := key zb
  generalize decide (za < 0) = p at *
  generalize decide (zb < 0) = q at *
  generalize za.natAbs = a at *
  generalize zb.natAbs = b at *
  rw [← h1, ← h2]
  unfold toZ
  rw [val_digs]
  cases p <;> cases q <;> simp [Int.neg_mul, Int.mul_neg]

set_option maxHeartbeats 1000000 in
theorem r1_Mul (va vb : Value) (na nb : Bool) (xs ys : List Nat) (w : World) (ha : IntR w va na xs) (hb : IntR w vb nb ys) (h1 : xs.length ≤ 2147483648) (h2 : ys.length ≤ 2147483648) :
    Calls Try.prog 16 #[va, vb] w (RetInt (toZ na xs * toZ nb ys) w) := by
  obtain ⟨A, n, c, rfl, hx⟩ := ha
  obtain ⟨B, m, d, rfl, hy⟩ := hb
  obtain ⟨W, hW⟩ : ∃ W, W = ((w.alloc (.cells #[.bool na, .slice A n c] 24)).alloc (.cells #[.bool nb, .slice B m d] 24)).alloc (.cells #[.bool false, .slice none 0 0] 24) := ⟨_, rfl⟩
  obtain ⟨hB, hbW⟩ := two_boxesB w _ _ _ _ _ _ _ W hW
  have hw : Ext w W.drew := hbW.drew
  have hB0 := keepB6 hB (Ext.refl W).drew
  clear hB hbW
  have Hx := Lib.hid hx
  have Hy := Lib.hid hy
  obtain ⟨z, hz⟩ : ∃ z, z = toZ na xs * toZ nb ys := ⟨_, rfl⟩
  rw [← hz]
  have hz1 : toZ (!(decide (toZ na xs < 0) == decide (toZ nb ys < 0))) (digs (val (digs (toZ na xs).natAbs) * val (digs (toZ nb ys).natAbs))) = z := by rw [hz]; exact mul_signs _ _
  have Hz := Lib.hid hz1
  clear hx hy hz hz1
  go_enter Try.func16, Try.ntmps16
  go_wp2_with fail
  rw [← hW]
  clear hW
  go_cut [5] (fun _ wx => NormTwo w (toZ na xs) (toZ nb ys) wx)
  case first =>
   go_region_with (first
    | ((go_at_call 20; ((with_reducible refine (r1_Norm _ na xs _ (intR_ext Hx.out (by assumption))).mono ?_); rintro e w1 ⟨v1, rfl, ⟨A1, n1, c1, rfl, hw1⟩, hb1⟩; have hB1 := keepB6 (by assumption) hb1; have hE1 := Ext.more (by assumption) hb1)))
    | ((go_at_call 20; (with_reducible refine (r1_Norm _ nb ys _ (intR_ext Hy.out (by assumption))).mono ?_); rintro e w2 ⟨v2, rfl, ⟨A2, n2, c2, rfl, hw2⟩, hb2⟩; have hB2 := keepB6 (by assumption) hb2; have hE2 := Ext.more (by assumption) hb2)))
   all_goals (go_wp2_with fail; go_meet; first | exact norm_two (by assumption) (Wrd.below (by assumption) (by assumption)) (by assumption) (by assumption) | exact norm_two (by assumption) (by assumption) (Wrd.below (by assumption) (by assumption)) (by assumption))
  case rest =>
    obtain ⟨A1, n1, c1, B1, m1, d1, ⟨⟨ca0, _⟩, ⟨ca1, _⟩, ⟨cb0, _⟩, ⟨cb1, _⟩, ⟨cr0, fr0⟩, ⟨cr1, fr1⟩⟩, hx1, hy1, hE1⟩ := hcut
    have hE : Ext wc wc.drew := (Ext.refl wc).drew
    have hl1 : (digs (toZ na xs).natAbs).length ≤ 4294967296 := by rw [natAbs_toZ]; exact trim_len Hx.out.wd h1
    have hl2 : (digs (toZ nb ys).natAbs).length ≤ 4294967296 := by rw [natAbs_toZ]; exact trim_len Hy.out.wd h2
    generalize ha : toZ na xs = za at *
    generalize hb : toZ nb ys = zb at *
    have Hx1 := Lib.hid hx1
    have Hy1 := Lib.hid hy1
    clear ha hb hx1 hy1 hw hB0
    go_wp2_with fail
    go_region_held3 (fun w' => w'.cell? ⟨w.heap.size, 0, none⟩ = some (.bool (decide (za < 0))) ∧ w'.cell? ⟨w.heap.size, 1, none⟩ = some (.slice A1 n1 c1) ∧ w'.cell? ⟨w.heap.size + 1, 0, none⟩ = some (.bool (decide (zb < 0))) ∧ w'.cell? ⟨w.heap.size + 1, 1, none⟩ = some (.slice B1 m1 d1) ∧ Ext w w')
      (first | exact ⟨ca0, ca1, cb0, cb1, hE1.drew⟩ | assumption | exact keep4 (by assumption) (by assumption) | exact keep4s (by assumption) (by omega) (by dsimp only; omega) (by dsimp only; omega) (by dsimp only; omega) (by dsimp only; omega))
      (first
        | ((go_at_call 52; (with_reducible refine (r1_times _ _ _ _ _ _ _ _ _ (Hx1.out.ext (by assumption)) (Hy1.out.ext (by assumption)) (by rw [← Hx1.out.len]; exact hl1) (by rw [← Hy1.out.len]; exact hl2)).mono ?_); rintro e w1 ⟨A3, n3, c3, zs, rfl, hw1, rfl, hb1⟩; have hE3 := Ext.more (by assumption) hb1))
        | ((go_at_call 51; (with_reducible refine (r1_signed_z (by assumption) Hz.out).mono ?_); rintro e w2 ⟨v2, rfl, ⟨A2, n2, c2, rfl, hw2⟩, hb2⟩; have hE2 := Ext.more (by assumption) hb2; have su0 := kc cr0 hE2; have su1 := kc cr1 hE2; have sf0 := kf cr0 fr0 hE2; have sf1 := kf cr1 fr1 hE2)))
    go_wp2_with fail
    exact bodyPost_ret (v := .agg #[.bool (decide (z < 0)), .slice A2 n2 c2]) (by simp [results, Try.results16, go_sem, su0, su1]) rfl (fin_int su0 su1 hw2 (hE1.trans hE2) (by omega))

end Go.Proofs.Ytdmijpechdaniaa
