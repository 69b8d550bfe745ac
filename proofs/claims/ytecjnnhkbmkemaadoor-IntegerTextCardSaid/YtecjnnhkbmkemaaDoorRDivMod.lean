/- DivMod of the reference. -/
import Derived.Test.YtecjnnhkbmkemaaDoorRDivB
import Derived.Test.YtecjnnhkbmkemaaDoorDivAll
import Derived.Test.YtecjnnhkbmkemaaDoorLSqrt
namespace Go.Proofs.YtecjnnhkbmkemaaDoor
open Go.RowKit
attribute [local go_sem ↓] Go.wp_at_zero Go.wp_at_succ

theorem td_sign (za zb : Int) : toZ (!(decide (za < 0) == decide (zb < 0))) (digs (za.natAbs / zb.natAbs)) = za.tdiv zb := by
  rw [toZ_d]
  by_cases ha : za < 0 <;> by_cases hb : zb < 0
  · obtain ⟨a, rfl⟩ : ∃ a : Nat, za = -(a : Int) := ⟨za.natAbs, by omega⟩
    obtain ⟨b, rfl⟩ : ∃ b : Nat, zb = -(b : Int) := ⟨zb.natAbs, by omega⟩
    rw [decide_eq_true ha, decide_eq_true hb, Int.tdiv_neg, Int.neg_tdiv, Int.neg_neg, Int.natAbs_neg, Int.natAbs_neg, Int.natAbs_natCast, Int.natAbs_natCast]
    simp
  · obtain ⟨a, rfl⟩ : ∃ a : Nat, za = -(a : Int) := ⟨za.natAbs, by omega⟩
    obtain ⟨b, rfl⟩ : ∃ b : Nat, zb = (b : Int) := ⟨zb.natAbs, by omega⟩
    rw [decide_eq_true ha, decide_eq_false hb, Int.neg_tdiv, Int.natAbs_neg, Int.natAbs_natCast, Int.natAbs_natCast]
    simp
  · obtain ⟨a, rfl⟩ : ∃ a : Nat, za = (a : Int) := ⟨za.natAbs, by omega⟩
    obtain ⟨b, rfl⟩ : ∃ b : Nat, zb = -(b : Int) := ⟨zb.natAbs, by omega⟩
    rw [decide_eq_false ha, decide_eq_true hb, Int.tdiv_neg, Int.natAbs_neg, Int.natAbs_natCast, Int.natAbs_natCast]
    simp
  · obtain ⟨a, rfl⟩ : ∃ a : Nat, za = (a : Int) := ⟨za.natAbs, by omega⟩
    obtain ⟨b, rfl⟩ : ∃ b : Nat, zb = (b : Int) := ⟨zb.natAbs, by omega⟩
    rw [decide_eq_false ha, decide_eq_false hb, Int.natAbs_natCast, Int.natAbs_natCast]
    simp
theorem sign_mul_neg (r b : Int) : r.sign * b.sign < 0 ↔ (r < 0 ∧ 0 < b) ∨ (0 < r ∧ b < 0) := by
  rcases Int.lt_trichotomy r 0 with h | h | h <;> rcases Int.lt_trichotomy b 0 with h' | h' | h' <;>
    first
    | (rw [Int.sign_eq_neg_one_of_neg h, Int.sign_eq_neg_one_of_neg h']; omega)
    | (rw [Int.sign_eq_neg_one_of_neg h, Int.sign_eq_one_of_pos h']; omega)
    | (rw [Int.sign_eq_one_of_pos h, Int.sign_eq_neg_one_of_neg h']; omega)
    | (rw [Int.sign_eq_one_of_pos h, Int.sign_eq_one_of_pos h']; omega)
    | (subst h; simp; done)
    | (subst h'; simp; done)
    | (subst h; simp; omega)
    | (subst h'; simp; omega)
theorem dm_plain {za zb q0 r0 : Int} (hb : zb ≠ 0) (hq : za.tdiv zb = q0) (hr : za - q0 * zb = r0) :
    r0.natAbs < zb.natAbs ∧ (r0.sign * zb.sign < 0 → za.fdiv zb = q0 - 1 ∧ za.fmod zb = r0 + zb) ∧ (¬ r0.sign * zb.sign < 0 → za.fdiv zb = q0 ∧ za.fmod zb = r0) := by
  have h1 : za.tmod zb = r0 := by
    rw [← hr, ← hq, Int.mul_comm, ← Int.tmod_def]
  have h2 : r0.natAbs < zb.natAbs := by
    rw [← h1, Int.natAbs_tmod]
    exact Nat.mod_lt _ (by omega)
  refine ⟨h2, fun h => ?_, fun h => ?_⟩
  · rw [sign_mul_neg] at h
    refine fd ?_ (by omega)
    have : (q0 - 1) * zb = q0 * zb - zb := by rw [Int.sub_mul, Int.one_mul]
    omega
  · rw [sign_mul_neg] at h
    exact fd (by omega) (by omega)

theorem digs_len_mono {a b : Nat} (h : a ≤ b) : (digs a).length ≤ (digs b).length := by
  refine digs_length_le (Nat.lt_of_le_of_lt h ?_)
  exact lt_of_digs (Nat.le_refl _)
/-- the two results' places are free, the memory grown -/
def DRest (w wx : World) : Prop := Slot wx (w.heap.size + 1 + 1) ∧ Slot wx (w.heap.size + 1 + 1 + 1) ∧ Ext w wx
theorem DRest.more {w w1 w2 : World} (h : DRest w w1) (hb : Below w1.heap.size w1 w2) : DRest w w2 := ⟨h.1.below hb, h.2.1.below hb, Ext.more h.2.2 hb⟩
theorem DRest.set2 {w wx : World} {g : Nat} (h : DRest w wx) (hg : w.heap.size + 4 ≤ g) (u v : Value) : DRest w ((wx.setCell ⟨g, 0, none⟩ u).setCell ⟨g, 1, none⟩ v) :=
  ⟨h.1.far (by omega) _ _, h.2.1.far (by omega) _ _, Ext.set2 h.2.2 (by omega) _ _⟩
theorem keep4D {W w w1 : World} {p1 p2 p3 p4 : Addr} {v1 v2 v3 v4 : Value} (h : w.cell? p1 = some v1 ∧ w.cell? p2 = some v2 ∧ w.cell? p3 = some v3 ∧ w.cell? p4 = some v4 ∧ DRest W w) (hb : Below w.heap.size w w1) : w1.cell? p1 = some v1 ∧ w1.cell? p2 = some v2 ∧ w1.cell? p3 = some v3 ∧ w1.cell? p4 = some v4 ∧ DRest W w1 := ⟨kc h.1 hb, kc h.2.1 hb, kc h.2.2.1 hb, kc h.2.2.2.1 hb, h.2.2.2.2.more hb⟩
/-- six cells that stand, the results' places free -/
def Six (V : World) (W : World) (p1 p2 p3 p4 p5 p6 : Addr) (v1 v2 v3 v4 v5 v6 : Value) (w : World) : Prop := w.cell? p1 = some v1 ∧ w.cell? p2 = some v2 ∧ w.cell? p3 = some v3 ∧ w.cell? p4 = some v4 ∧ w.cell? p5 = some v5 ∧ w.cell? p6 = some v6 ∧ DRest W w ∧ Ext V w
theorem keeps_six {V : World} {W : World} {p1 p2 p3 p4 p5 p6 : Addr} {v1 v2 v3 v4 v5 v6 : Value} (h1 : p1.block < V.heap.size) (h2 : p2.block < V.heap.size) (h3 : p3.block < V.heap.size) (h4 : p4.block < V.heap.size) (h5 : p5.block < V.heap.size) (h6 : p6.block < V.heap.size) (hN : W.heap.size + 4 ≤ V.heap.size) : Keeps V.heap.size (Six V W p1 p2 p3 p4 p5 p6 v1 v2 v3 v4 v5 v6) :=
  ⟨fun h hb => ⟨kc h.1 hb, kc h.2.1 hb, kc h.2.2.1 hb, kc h.2.2.2.1 hb, kc h.2.2.2.2.1 hb, kc h.2.2.2.2.2.1 hb, h.2.2.2.2.2.2.1.more hb, Ext.more h.2.2.2.2.2.2.2 hb⟩,
   fun h hg _ => ⟨cell_far2 h.1 (by omega), cell_far2 h.2.1 (by omega), cell_far2 h.2.2.1 (by omega), cell_far2 h.2.2.2.1 (by omega), cell_far2 h.2.2.2.2.1 (by omega), cell_far2 h.2.2.2.2.2.1 (by omega), h.2.2.2.2.2.2.1.set2 (by omega) _ _, Ext.set2 h.2.2.2.2.2.2.2 hg _ _⟩, fun h => (h.2.2.2.2.2.2.2 : Below _ _ _).size⟩
theorem Six.ext {V : World} {W : World} {p1 p2 p3 p4 p5 p6 : Addr} {v1 v2 v3 v4 v5 v6 : Value} {w : World} (h : Six V W p1 p2 p3 p4 p5 p6 v1 v2 v3 v4 v5 v6 w) : Ext V w := h.2.2.2.2.2.2.2

theorem Done.drew {w : World} {r : Nat} {z : Int} (h : Done w r z) : Done w.drew r z := by
  obtain ⟨A, n, c, h0, h1, h2⟩ := h
  exact ⟨A, n, c, h0, h1, h2.drew⟩
/-- two results stored, in either order -/
theorem fin12b {X F : World} {A B : Option Addr} {n c m d rq rr : Nat} {q r : Int} {b1 b2 : Bool} (h1 : decide (q < 0) = b1) (h2 : decide (r < 0) = b2) (hq : Wrd X A n c (digs q.natAbs)) (hr : Wrd X B m d (digs r.natAbs)) (hs : Slot X rq ∧ Slot X rr) (hne : rq ≠ rr)
    (hF : F = (((X.setCell ⟨rq, 0, none⟩ (.bool b1)).setCell ⟨rq, 1, none⟩ (.slice A n c)).setCell ⟨rr, 0, none⟩ (.bool b2)).setCell ⟨rr, 1, none⟩ (.slice B m d) ∨ F = (((X.setCell ⟨rr, 0, none⟩ (.bool b2)).setCell ⟨rr, 1, none⟩ (.slice B m d)).setCell ⟨rq, 0, none⟩ (.bool b1)).setCell ⟨rq, 1, none⟩ (.slice A n c)) :
    Done F rq q ∧ Done F rr r := by
  subst h1 h2
  rcases hF with rfl | rfl
  · exact fin12 hq hr hs hne
  · exact swap_done (fin12 hr hq (swap_slots hs) (fun e => hne e.symm))
/-- what stands beside four cells -/
def Rest7 (V W : World) (p5 p6 : Addr) (v5 v6 : Value) (w : World) : Prop := w.cell? p5 = some v5 ∧ w.cell? p6 = some v6 ∧ DRest W w ∧ Ext V w
theorem keepR7 {V W w w1 : World} {p1 p2 p3 p4 p5 p6 : Addr} {v1 v2 v3 v4 v5 v6 : Value} (h : w.cell? p1 = some v1 ∧ w.cell? p2 = some v2 ∧ w.cell? p3 = some v3 ∧ w.cell? p4 = some v4 ∧ Rest7 V W p5 p6 v5 v6 w) (hb : Below w.heap.size w w1) : w1.cell? p1 = some v1 ∧ w1.cell? p2 = some v2 ∧ w1.cell? p3 = some v3 ∧ w1.cell? p4 = some v4 ∧ Rest7 V W p5 p6 v5 v6 w1 :=
  ⟨kc h.1 hb, kc h.2.1 hb, kc h.2.2.1 hb, kc h.2.2.2.1 hb, kc h.2.2.2.2.1 hb, kc h.2.2.2.2.2.1 hb, h.2.2.2.2.2.2.1.more hb, Ext.more h.2.2.2.2.2.2.2 hb⟩
theorem extR7 {V W w : World} {p1 p2 p3 p4 p5 p6 : Addr} {v1 v2 v3 v4 v5 v6 : Value} (h : w.cell? p1 = some v1 ∧ w.cell? p2 = some v2 ∧ w.cell? p3 = some v3 ∧ w.cell? p4 = some v4 ∧ Rest7 V W p5 p6 v5 v6 w) : Ext V w := h.2.2.2.2.2.2.2
theorem sign_abs (z : Int) : -1 ≤ z.sign ∧ z.sign ≤ 1 := by
  rcases Int.lt_trichotomy z 0 with h | h | h
  · rw [Int.sign_eq_neg_one_of_neg h]; decide
  · rw [h]; decide
  · rw [Int.sign_eq_one_of_pos h]; decide
theorem sign_prod (a b : Int) : -1 ≤ a.sign * b.sign ∧ a.sign * b.sign ≤ 1 := by
  rw [← Int.sign_mul]; exact sign_abs _

/-- behind the quotient's adjustment -/
def Cut9 (w : World) (g9 g10 : Nat) (q1 r0 zb : Int) (A4 B1 : Option Addr) (n4 c4 m1 d1 : Nat) (br bb : Bool) (wx : World) : Prop :=
  (wx.cell? ⟨g10, 0, none⟩ = some (.bool br) ∧ wx.cell? ⟨g10, 1, none⟩ = some (.slice A4 n4 c4) ∧ wx.cell? ⟨w.heap.size + 1, 0, none⟩ = some (.bool bb) ∧ wx.cell? ⟨w.heap.size + 1, 1, none⟩ = some (.slice B1 m1 d1)) ∧
  Done wx g9 q1 ∧ Slot wx g10 ∧ DRest w wx ∧ Wrd wx A4 n4 c4 (digs r0.natAbs) ∧ Wrd wx B1 m1 d1 (digs zb.natAbs)
/-- what stands before it -/
def Rest9 (V w : World) (g9 g10 : Nat) (br bb : Bool) (A4 B1 : Option Addr) (n4 c4 m1 d1 : Nat) (wx : World) : Prop :=
  (wx.cell? ⟨g10, 0, none⟩ = some (.bool br) ∧ wx.cell? ⟨g10, 1, none⟩ = some (.slice A4 n4 c4) ∧ wx.cell? ⟨w.heap.size + 1, 0, none⟩ = some (.bool bb) ∧ wx.cell? ⟨w.heap.size + 1, 1, none⟩ = some (.slice B1 m1 d1)) ∧
  Slot wx g9 ∧ Slot wx g10 ∧ DRest w wx ∧ Ext V wx
section
variable {V w w1 w2 : World} {g9 g10 : Nat} {br bb bq : Bool} {A3 A4 B1 : Option Addr} {n3 c3 n4 c4 m1 d1 : Nat}
theorem keep9 (h : w1.cell? ⟨g9, 0, none⟩ = some (.bool bq) ∧ w1.cell? ⟨g9, 1, none⟩ = some (.slice A3 n3 c3) ∧ Rest9 V w g9 g10 br bb A4 B1 n4 c4 m1 d1 w1) (hb : Below w1.heap.size w1 w2) : w2.cell? ⟨g9, 0, none⟩ = some (.bool bq) ∧ w2.cell? ⟨g9, 1, none⟩ = some (.slice A3 n3 c3) ∧ Rest9 V w g9 g10 br bb A4 B1 n4 c4 m1 d1 w2 :=
  ⟨kc h.1 hb, kc h.2.1 hb, ⟨kc h.2.2.1.1 hb, kc h.2.2.1.2.1 hb, kc h.2.2.1.2.2.1 hb, kc h.2.2.1.2.2.2 hb⟩, h.2.2.2.1.below hb, h.2.2.2.2.1.below hb, h.2.2.2.2.2.1.more hb, Ext.more h.2.2.2.2.2.2 hb⟩
theorem ext9 (h : w1.cell? ⟨g9, 0, none⟩ = some (.bool bq) ∧ w1.cell? ⟨g9, 1, none⟩ = some (.slice A3 n3 c3) ∧ Rest9 V w g9 g10 br bb A4 B1 n4 c4 m1 d1 w1) : Ext V w1 := h.2.2.2.2.2.2
theorem slot9 (h : w1.cell? ⟨g9, 0, none⟩ = some (.bool bq) ∧ w1.cell? ⟨g9, 1, none⟩ = some (.slice A3 n3 c3) ∧ Rest9 V w g9 g10 br bb A4 B1 n4 c4 m1 d1 w1) : Slot w1 g9 := h.2.2.2.1
theorem cut9 {q1 r0 zb : Int} {A5 : Option Addr} {n5 c5 : Nat} (h : w1.cell? ⟨g9, 0, none⟩ = some (.bool bq) ∧ w1.cell? ⟨g9, 1, none⟩ = some (.slice A3 n3 c3) ∧ Rest9 V w g9 g10 br bb A4 B1 n4 c4 m1 d1 w1) (hw : Wrd w1 A5 n5 c5 (digs q1.natAbs)) (hr : Wrd V A4 n4 c4 (digs r0.natAbs)) (hb : Wrd V B1 m1 d1 (digs zb.natAbs)) (hN : w.heap.size + 4 ≤ g9) (hne : g9 ≠ g10) :
    Cut9 w g9 g10 q1 r0 zb A4 B1 n4 c4 m1 d1 br bb ((w1.setCell ⟨g9, 0, none⟩ (.bool (decide (q1 < 0)))).setCell ⟨g9, 1, none⟩ (.slice A5 n5 c5)) := by
  obtain ⟨-, -, ⟨a0, a1, a2, a3⟩, s9, s10, hD, hE⟩ := h
  exact ⟨⟨cell_far2 a0 (fun e => hne e.symm), cell_far2 a1 (fun e => hne e.symm), cell_far2 a2 (by dsimp only; omega), cell_far2 a3 (by dsimp only; omega)⟩, Done.intro hw s9, s10.far (fun e => hne e.symm) _ _, hD.set2 hN _ _, (hr.ext hE).set2 s9 _ _, (hb.ext hE).set2 s9 _ _⟩
end

end Go.Proofs.YtecjnnhkbmkemaaDoor
