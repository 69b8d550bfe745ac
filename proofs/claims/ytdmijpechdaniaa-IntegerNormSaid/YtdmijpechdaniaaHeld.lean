/- Worlds that have only grown; cells held through a region that draws its order. -/
import Derived.Test.YtdmijpechdaniaaClone
import Derived.Test.YtdmijpechdaniaaTimes2
import Derived.Deep.RegionHeld3
import Derived.Deep.DrawnRows
namespace Go.Proofs.Ytdmijpechdaniaa
open Go.RowKit
attribute [local go_sem ↓] Go.wp_at_zero Go.wp_at_succ

/-- the world has only grown -/
def Ext (W w : World) : Prop := Below W.heap.size W w
theorem Ext.refl (W : World) : Ext W W := Below.refl _ _
theorem Ext.more {W w w' : World} (h : Ext W w) (hb : Below w.heap.size w w') : Ext W w' := Below.trans h (hb.mono h.size)
theorem Ext.drew {W w : World} (h : Ext W w) : Ext W w.drew := Below.drew h
theorem Ext.below {W w : World} (h : Ext W w) : Below W.heap.size W w := h
theorem kc {w w' : World} {p : Addr} {v : Value} (h : w.cell? p = some v) (hb : Below w.heap.size w w') : w'.cell? p = some v :=
  (hb.cell (World.block_lt_of_cell? w p h)).trans h
theorem kf {w w' : World} {p : Addr} {v : Value} (hc : w.cell? p = some v) (h : w.frozen? p = false) (hb : Below w.heap.size w w') : w'.frozen? p = false :=
  (hb.frozen (World.block_lt_of_cell? w p hc)).trans h

theorem Ext.set {W w : World} (h : Ext W w) {p : Addr} (hp : W.heap.size ≤ p.block) (u : Value) : Ext W (w.setCell p u) := Below.setCell h hp u

theorem kc' {w w' : World} {p : Addr} {v : Value} (h : w.cell? p = some v) (hb : Ext w w') : w'.cell? p = some v := kc h hb
theorem kf' {w w' : World} {p : Addr} {v : Value} (hc : w.cell? p = some v) (h : w.frozen? p = false) (hb : Ext w w') : w'.frozen? p = false := kf hc h hb
theorem Wrd.ext {W w : World} {A : Option Addr} {n c : Nat} {xs : List Nat} (h : Wrd W A n c xs) (hb : Ext W w) : Wrd w A n c xs := h.below hb
theorem cell_far {w : World} {p q : Addr} {v u : Value} (h : w.cell? p = some v) (hne : p ≠ q) : (w.setCell q u).cell? p = some v := by
  exact (World.cell?_setCell_other w q p u (fun e => hne e.symm)).trans h
/-- a store into a cell that holds no word leaves the words -/
theorem Wrd.store {w : World} {A : Option Addr} {n c : Nat} {xs : List Nat} (h : Wrd w A n c xs) {p : Addr} {v0 : Value} (hp : w.cell? p = some v0) (hne : ∀ x, v0 ≠ W32 x) (u : Value) : Wrd (w.setCell p u) A n c xs := by
  refine ⟨h.len, h.cap, h.lim, h.wd, ?_, h.isnil⟩
  rcases h.cells with h0 | ⟨b, off, hA, hc⟩
  · exact .inl h0
  · refine .inr ⟨b, off, hA, fun i v hv => cell_far (hc i v hv) ?_⟩
    rintro rfl
    rw [hc i v hv] at hp
    rw [List.getElem?_map] at hv
    cases hx : xs[i]? with
    | none => rw [hx] at hv; cases hv
    | some x =>
      rw [hx] at hv
      simp only [Option.map_some, Option.some.injEq] at hv hp
      exact hne x (by rw [← hp, ← hv])

theorem cell_far2 {w : World} {r o1 o2 : Nat} {u1 u2 : Value} {p : Addr} {v : Value} (hp : w.cell? p = some v) (hne : p.block ≠ r) : ((w.setCell ⟨r, o1, none⟩ u1).setCell ⟨r, o2, none⟩ u2).cell? p = some v :=
  cell_far (cell_far hp (fun e => hne (by rw [e]))) (fun e => hne (by rw [e]))

theorem two_boxes (w : World) (a0 a1 b0 b1 r0 r1 : Value) (t : TypeId) (W : World) (hW : W = ((w.alloc (.cells #[a0, a1] t)).alloc (.cells #[b0, b1] t)).alloc (.cells #[r0, r1] t)) :
    (W.cell? ⟨w.heap.size, 0, none⟩ = some a0 ∧ W.cell? ⟨w.heap.size, 1, none⟩ = some a1 ∧ W.cell? ⟨w.heap.size + 1, 0, none⟩ = some b0 ∧ W.cell? ⟨w.heap.size + 1, 1, none⟩ = some b1) ∧
    (W.cell? ⟨w.heap.size + 1 + 1, 0, none⟩ = some r0 ∧ W.cell? ⟨w.heap.size + 1 + 1, 1, none⟩ = some r1 ∧ W.frozen? ⟨w.heap.size + 1 + 1, 0, none⟩ = false ∧ W.frozen? ⟨w.heap.size + 1 + 1, 1, none⟩ = false) ∧ Ext w W := by
  have h0 : Below w.heap.size w (w.alloc (.cells #[a0, a1] t)) := (Below.refl _ _).alloc (Nat.le_refl _) _
  have h1 : Below w.heap.size w ((w.alloc (.cells #[a0, a1] t)).alloc (.cells #[b0, b1] t)) := h0.alloc (by simp) _
  have h2 : Below w.heap.size w W := by rw [hW]; exact h1.alloc (by simp; omega) _
  refine ⟨?_, ?_, h2⟩
  · subst hW; simp [go_sem]
  · subst hW; simp [go_sem]
theorem one_box (w : World) (a0 a1 r0 r1 : Value) (t : TypeId) (W : World) (hW : W = (w.alloc (.cells #[a0, a1] t)).alloc (.cells #[r0, r1] t)) :
    (W.cell? ⟨w.heap.size, 0, none⟩ = some a0 ∧ W.cell? ⟨w.heap.size, 1, none⟩ = some a1) ∧
    (W.cell? ⟨w.heap.size + 1, 0, none⟩ = some r0 ∧ W.cell? ⟨w.heap.size + 1, 1, none⟩ = some r1 ∧ W.frozen? ⟨w.heap.size + 1, 0, none⟩ = false ∧ W.frozen? ⟨w.heap.size + 1, 1, none⟩ = false) ∧ Ext w W := by
  have h0 : Below w.heap.size w (w.alloc (.cells #[a0, a1] t)) := (Below.refl _ _).alloc (Nat.le_refl _) _
  have h2 : Below w.heap.size w W := by rw [hW]; exact h0.alloc (by simp) _
  refine ⟨?_, ?_, h2⟩
  · subst hW; simp [go_sem]
  · subst hW; simp [go_sem]

/-- the end of a function that stores a normal integer in its result's place -/
theorem fin_int {w w2 : World} {r n c : Nat} {z : Int} {A : Option Addr} (h0 : w2.cell? ⟨r, 0, none⟩ = some (.bool false)) (h1 : w2.cell? ⟨r, 1, none⟩ = some (.slice none 0 0)) (hw : Wrd w2 A n c (digs z.natAbs)) (hb : Ext w w2) (hr : w.heap.size ≤ r) :
    RetInt z w (.returned (.agg #[.bool (decide (z < 0)), .slice A n c])) ((w2.setCell ⟨r, 0, none⟩ (.bool (decide (z < 0)))).setCell ⟨r, 1, none⟩ (.slice A n c)) := by
  refine ⟨_, rfl, ⟨A, n, c, rfl, ?_⟩, (hb.set (p := ⟨r, 0, none⟩) hr _).set (p := ⟨r, 1, none⟩) hr _⟩
  refine (hw.store h0 (by intro x; simp) _).store (cell_far h1 (by simp)) (by intro x; simp) _
theorem fin_intb {w w2 : World} {r n c : Nat} {z : Int} {b : Bool} {A : Option Addr} (hz : decide (z < 0) = b) (h0 : w2.cell? ⟨r, 0, none⟩ = some (.bool false)) (h1 : w2.cell? ⟨r, 1, none⟩ = some (.slice none 0 0)) (hw : Wrd w2 A n c (digs z.natAbs)) (hb : Ext w w2) (hr : w.heap.size ≤ r) :
    RetInt z w (.returned (.agg #[.bool b, .slice A n c])) ((w2.setCell ⟨r, 0, none⟩ (.bool b)).setCell ⟨r, 1, none⟩ (.slice A n c)) := hz ▸ fin_int h0 h1 hw hb hr
theorem intR_mk {w : World} {neg : Bool} {A : Option Addr} {n c : Nat} {xs : List Nat} (h : Wrd w A n c xs) : IntR w (.agg #[.bool neg, .slice A n c]) neg xs := ⟨A, n, c, rfl, h⟩
theorem intR_ext {W w : World} {neg : Bool} {A : Option Addr} {n c : Nat} {xs : List Nat} (h : Wrd W A n c xs) (hb : Ext W w) : IntR w (.agg #[.bool neg, .slice A n c]) neg xs := ⟨A, n, c, rfl, h.ext hb⟩
theorem Ext.alloc {W w : World} (h : Ext W w) (o : Obj) : Ext W (w.alloc o) := Below.alloc h h.size o
theorem Ext.trans {a b c : World} (h : Ext a b) (k : Ext b c) : Ext a c := Ext.more h k

end Go.Proofs.Ytdmijpechdaniaa
