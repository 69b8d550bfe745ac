/- IntegerMul answers true. -/
import Derived.Test.YtecjnnhkbmkemaaDoorLaw
import Derived.Test.YtecjnnhkbmkemaaDoorAj
namespace Go.Proofs.YtecjnnhkbmkemaaDoor
open Go.ChangeShapes Go.WideShapes Go.ChangeAt Go.RowKit Go.Joins
attribute [local go_sem ↓] Go.wp_at_zero Go.wp_at_succ

theorem small_two {w : World} {b n m c d : Nat} {na nb : Bool} {A B : Option Addr} {s : Bool} (hs : decide (n ≤ 20 ∧ m ≤ 20) = s)
    (h0 : w.cell? ⟨b, 0, none⟩ = some (.bool na)) (h1 : w.cell? ⟨b, 1, none⟩ = some (.slice A n c)) (h2 : w.cell? ⟨b, 2, none⟩ = some (.bool nb)) (h3 : w.cell? ⟨b, 3, none⟩ = some (.slice B m d)) :
    Calls Tryd.prog 5 #[.slice (some ⟨b, 0, none⟩) 2 2] w (RetB s w) := by
  have := l1_small b 0 2 2 (fun i => if i = 0 then na else nb) (fun i => if i = 0 then A else B) (fun i => if i = 0 then n else m) (fun i => if i = 0 then c else d) w (Nat.le_refl _) (by decide) (by
    intro i hi
    match i, hi with
    | 0, _ => exact ⟨h0, h1⟩
    | 1, _ => exact ⟨h2, h3⟩)
  have e : decide (∀ i, i < 2 → (if i = 0 then n else m) ≤ 20) = decide (n ≤ 20 ∧ m ≤ 20) := by
    apply decide_eq_decide.2
    constructor
    · intro h; exact ⟨h 0 (by decide), h 1 (by decide)⟩
    · intro h i hi
      match i, hi with
      | 0, _ => exact h.1
      | 1, _ => exact h.2
  rw [e, hs] at this
  exact this
theorem sameV {v1 v2 : Value} {z : Int} {w : World} (h1 : IntV w v1 z) (h2 : IntV w v2 z) : Calls Tryd.prog 10 #[v1, v2] w (RetB true w) := by
  have := l1_same v1 v2 _ _ _ _ w h1 h2
  rw [sameB_int, decide_eq_true rfl] at this
  exact this
theorem four_cells (w : World) (a b c d : Value) (t : TypeId) :
    (w.alloc (.cells #[a, b, c, d] t)).cell? ⟨w.heap.size, 0, none⟩ = some a ∧ (w.alloc (.cells #[a, b, c, d] t)).cell? ⟨w.heap.size, 1, none⟩ = some b ∧ (w.alloc (.cells #[a, b, c, d] t)).cell? ⟨w.heap.size, 2, none⟩ = some c ∧ (w.alloc (.cells #[a, b, c, d] t)).cell? ⟨w.heap.size, 3, none⟩ = some d := by simp [go_sem]

end Go.Proofs.YtecjnnhkbmkemaaDoor
