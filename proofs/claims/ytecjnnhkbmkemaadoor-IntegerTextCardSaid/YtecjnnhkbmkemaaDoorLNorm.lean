/- IntegerNorm answers true. -/
import Derived.Test.YtecjnnhkbmkemaaDoorLMul
import Derived.Test.YtecjnnhkbmkemaaDoorAk
namespace Go.Proofs.YtecjnnhkbmkemaaDoor
open Go.ChangeShapes Go.WideShapes Go.ChangeAt Go.RowKit Go.Joins
attribute [local go_sem ↓] Go.wp_at_zero Go.wp_at_succ

theorem small_one {w : World} {b n c : Nat} {na : Bool} {A : Option Addr} {s : Bool} (hs : decide (n ≤ 20) = s)
    (h0 : w.cell? ⟨b, 0, none⟩ = some (.bool na)) (h1 : w.cell? ⟨b, 1, none⟩ = some (.slice A n c)) :
    Calls Tryd.prog 5 #[.slice (some ⟨b, 0, none⟩) 1 1] w (RetB s w) := by
  have := l1_small b 0 1 1 (fun _ => na) (fun _ => A) (fun _ => n) (fun _ => c) w (Nat.le_refl _) (by decide) (by
    intro i hi
    obtain rfl : i = 0 := by omega
    exact ⟨h0, h1⟩)
  have e : decide (∀ i, i < 1 → n ≤ 20) = decide (n ≤ 20) := by
    apply decide_eq_decide.2
    exact ⟨fun h => h 0 (by decide), fun h _ _ => h⟩
  rw [e, hs] at this
  exact this
end Go.Proofs.YtecjnnhkbmkemaaDoor
