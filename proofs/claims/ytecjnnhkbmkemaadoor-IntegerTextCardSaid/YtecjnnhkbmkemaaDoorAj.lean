/- Add of the program. Cmp of the program; Sign, Add, Sub and Cmp of the reference. Sign, Add, Sub and Cmp of the reference. Sub and Cmp of the reference; the sums' law. -/
import Derived.Test.YtecjnnhkbmkemaaDoorAi
namespace Go.Proofs.YtecjnnhkbmkemaaDoor
open Go.RowKit
attribute [local go_sem ↓] Go.wp_at_zero Go.wp_at_succ

theorem ext4e {W w : World} {p1 p2 p3 p4 : Addr} {v1 v2 v3 v4 : Value} (h : w.cell? p1 = some v1 ∧ w.cell? p2 = some v2 ∧ w.cell? p3 = some v3 ∧ w.cell? p4 = some v4 ∧ Ext W w) : Ext W w := h.2.2.2.2
theorem toZ_add_eq (na : Bool) (xs ys zs : List Nat) (h : val zs = val xs + val ys) : toZ na zs = toZ na xs + toZ na ys := by
  unfold toZ; rw [h]; cases na <;> simp; omega
theorem toZ_add_lt (na : Bool) (xs ys : List Nat) (h : val xs < val ys) : toZ (!na) (digs (val (trim ys) - val (trim xs))) = toZ na xs + toZ (!na) ys := by
  unfold toZ; rw [val_digs, val_trim, val_trim]; cases na <;> simp <;> omega
theorem toZ_add_ge (na : Bool) (xs ys : List Nat) (h : val ys ≤ val xs) : toZ na (digs (val (trim xs) - val (trim ys))) = toZ na xs + toZ (!na) ys := by
  unfold toZ; rw [val_digs, val_trim, val_trim]; cases na <;> simp <;> omega
theorem not_cases {na nb : Bool} (h : nb ≠ na) : nb = !na := by cases na <;> cases nb <;> simp_all
theorem cmpW_trim (xs ys : List Nat) : cmpW (trim xs) (trim ys) = ordI (val xs) (val ys) := cmpW_digs _ _

theorem toZ_neg (nb : Bool) (ys : List Nat) : toZ (!nb) ys = -toZ nb ys := by unfold toZ; cases nb <;> simp

end Go.Proofs.YtecjnnhkbmkemaaDoor

namespace Go.Proofs.YtecjnnhkbmkemaaDoor
open Go.RowKit
attribute [local go_sem ↓] Go.wp_at_zero Go.wp_at_succ

theorem sgn_range (na : Bool) (xs : List Nat) : sgn na xs = -1 ∨ sgn na xs = 0 ∨ sgn na xs = 1 := by unfold sgn; split <;> (try split) <;> simp
theorem cmp_ne (na nb : Bool) (xs ys : List Nat) (h : sgn na xs ≠ sgn nb ys) : ordI (sgn na xs) (sgn nb ys) = ordI (toZ na xs) (toZ nb ys) := by
  unfold sgn toZ ordI at *
  cases na <;> cases nb <;> by_cases h1 : val xs = 0 <;> by_cases h2 : val ys = 0 <;> simp_all <;> (repeat' split) <;> omega
theorem cmp_eq (na nb : Bool) (xs ys : List Nat) (s : Int) (h1 : sgn na xs = s) (h2 : sgn nb ys = s) : s * ordI (val xs) (val ys) = ordI (toZ na xs) (toZ nb ys) := by
  subst h1
  unfold sgn toZ ordI at *
  cases na <;> cases nb <;> by_cases h1 : val xs = 0 <;> by_cases h3 : val ys = 0 <;> simp_all <;> (repeat' split) <;> omega

/-- compare of two trimmed lists, its answer named -/
theorem cmp_call {o : Int} {A B : Option Addr} {n m c d : Nat} {xs ys : List Nat} (ho : ordI (val xs) (val ys) = o) (W : World) (h1 : Wrd W A n c (trim xs)) (h2 : Wrd W B m d (trim ys)) : Calls Tryd.prog 40 #[.slice A n c, .slice B m d] W (RetN o W) := by
  have := i_compare A B n m c d (trim xs) (trim ys) W h1 h2
  rw [cmpW_trim, ho] at this
  exact this.mono fun _ _ ⟨he, q, hq⟩ => ⟨he, hq ▸ ext_drewN _ q⟩
theorem cmp_call1 {o : Int} {A B : Option Addr} {n m c d : Nat} {xs ys : List Nat} (ho : ordI (val xs) (val ys) = o) (W : World) (h1 : Wrd W A n c (trim xs)) (h2 : Wrd W B m d (trim ys)) : Calls Tryd.prog 51 #[.slice A n c, .slice B m d] W (RetN o W) := by
  have := r1_compare A B n m c d (trim xs) (trim ys) W h1 h2
  rw [cmpW_trim, ho] at this
  exact this.mono fun _ _ ⟨he, q, hq⟩ => ⟨he, hq ▸ ext_drewN _ q⟩

end Go.Proofs.YtecjnnhkbmkemaaDoor

namespace Go.Proofs.YtecjnnhkbmkemaaDoor
open Go.RowKit
attribute [local go_sem ↓] Go.wp_at_zero Go.wp_at_succ

theorem box1 (w : World) (a0 a1 : Value) (t : TypeId) (W : World) (hW : W = w.alloc (.cells #[a0, a1] t)) :
    (W.cell? ⟨w.heap.size, 0, none⟩ = some a0 ∧ W.cell? ⟨w.heap.size, 1, none⟩ = some a1) ∧ (W.frozen? ⟨w.heap.size, 0, none⟩ = false ∧ W.frozen? ⟨w.heap.size, 1, none⟩ = false) ∧ Ext w W := by
  refine ⟨?_, ?_, by rw [hW]; exact (Ext.refl w).alloc _⟩
  · subst hW; simp [go_sem]
  · subst hW; simp [go_sem]

/-- Norm of the reference, the integer named -/
theorem r1_Norm_z {va : Value} {na : Bool} {xs : List Nat} {w : World} {z : Int} (ha : IntR w va na xs) (hz : toZ na xs = z) : Calls Tryd.prog 11 #[va] w (RetInt z w) := hz ▸ r1_Norm va na xs w ha
theorem digs_len_eq {na : Bool} {xs : List Nat} {z : Int} (hz : toZ na xs = z) : digs z.natAbs = trim xs := by rw [← hz, natAbs_toZ]; rfl
theorem rs_add (za zb : Int) (h : decide (za < 0) = decide (zb < 0)) : toZ (decide (za < 0)) (digs (val (digs za.natAbs) + val (digs zb.natAbs))) = za + zb := by
  unfold toZ; rw [val_digs, val_digs, val_digs]
  by_cases h1 : za < 0 <;> by_cases h2 : zb < 0 <;> simp_all <;> omega
theorem rs_ge (za zb : Int) (h : decide (za < 0) ≠ decide (zb < 0)) (hl : zb.natAbs ≤ za.natAbs) : toZ (decide (za < 0)) (digs (val (digs za.natAbs) - val (digs zb.natAbs))) = za + zb := by
  unfold toZ; rw [val_digs, val_digs, val_digs]
  by_cases h1 : za < 0 <;> by_cases h2 : zb < 0 <;> simp_all <;> omega
theorem rs_lt (za zb : Int) (h : decide (za < 0) ≠ decide (zb < 0)) (hl : za.natAbs < zb.natAbs) : toZ (decide (zb < 0)) (digs (val (digs zb.natAbs) - val (digs za.natAbs))) = za + zb := by
  unfold toZ; rw [val_digs, val_digs, val_digs]
  by_cases h1 : za < 0 <;> by_cases h2 : zb < 0 <;> simp_all <;> omega

/-- behind 'a, b = Norm(a), Norm(b)', the signs named -/
theorem normTwo_open {w wx : World} {za zb : Int} (h : NormTwo w za zb wx) {ba bb : Bool} (ha : decide (za < 0) = ba) (hb : decide (zb < 0) = bb) : ∃ A n c B m d,
    (wx.cell? ⟨w.heap.size, 0, none⟩ = some (.bool ba) ∧ wx.cell? ⟨w.heap.size, 1, none⟩ = some (.slice A n c) ∧ wx.cell? ⟨w.heap.size + 1, 0, none⟩ = some (.bool bb) ∧ wx.cell? ⟨w.heap.size + 1, 1, none⟩ = some (.slice B m d) ∧ Ext w wx) ∧
    (wx.cell? ⟨w.heap.size + 1 + 1, 0, none⟩ = some (.bool false) ∧ wx.cell? ⟨w.heap.size + 1 + 1, 1, none⟩ = some (.slice none 0 0) ∧ wx.frozen? ⟨w.heap.size + 1 + 1, 0, none⟩ = false ∧ wx.frozen? ⟨w.heap.size + 1 + 1, 1, none⟩ = false) ∧
    Wrd wx A n c (digs za.natAbs) ∧ Wrd wx B m d (digs zb.natAbs) := by
  subst ha hb
  obtain ⟨A, n, c, B, m, d, ⟨⟨a0, _⟩, ⟨a1, _⟩, ⟨a2, _⟩, ⟨a3, _⟩, ⟨a4, f4⟩, ⟨a5, f5⟩⟩, h1, h2, h3⟩ := h
  exact ⟨A, n, c, B, m, d, ⟨a0, a1, a2, a3, h3⟩, ⟨a4, a5, f4, f5⟩, h1, h2⟩

theorem cmpR {o : Int} {A B : Option Addr} {n m c d : Nat} {a b : Nat} (ho : ordI a b = o) (W : World) (h1 : Wrd W A n c (digs a)) (h2 : Wrd W B m d (digs b)) : Calls Tryd.prog 51 #[.slice A n c, .slice B m d] W (RetN o W) := by
  have := r1_compare A B n m c d (digs a) (digs b) W h1 h2
  rw [cmpW_digs, ho] at this
  exact this.mono fun _ _ ⟨he, q, hq⟩ => ⟨he, hq ▸ ext_drewN _ q⟩

end Go.Proofs.YtecjnnhkbmkemaaDoor

namespace Go.Proofs.YtecjnnhkbmkemaaDoor
open Go.RowKit
attribute [local go_sem ↓] Go.wp_at_zero Go.wp_at_succ

theorem trim_len0 {xs : List Nat} (h : Wd xs) (na : Bool) (k : Nat) (h1 : xs.length ≤ k) : (digs (toZ na xs).natAbs).length ≤ k := by
  rw [natAbs_toZ]; exact Nat.le_trans (trim_length h) h1
theorem IntR.wd {w : World} {v : Value} {na : Bool} {xs : List Nat} (h : IntR w v na xs) : Wd xs := by
  obtain ⟨_, _, _, _, h⟩ := h
  exact h.wd

theorem ordI_sub (a b : Int) : (a - b).sign = ordI a b := by
  unfold ordI
  rcases Int.lt_trichotomy a b with h | h | h
  · rw [if_pos h, Int.sign_eq_neg_one_of_neg (by omega)]
  · subst h; simp
  · rw [if_neg (by omega), if_pos h, Int.sign_eq_one_of_pos (by omega)]
end Go.Proofs.YtecjnnhkbmkemaaDoor
