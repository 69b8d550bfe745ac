/- digit of the reference. -/
import Derived.Test.YtecjnnhkbmkemaaDoorAl
import Derived.Test.YtecjnnhkbmkemaaDoorRBack
import Derived.Test.YtecjnnhkbmkemaaDoorRFresh
import Derived.Test.YtecjnnhkbmkemaaDoorAj
import Derived.Test.YtecjnnhkbmkemaaDoorAd
import Derived.Deep.DeepCutAuto
namespace Go.Proofs.YtecjnnhkbmkemaaDoor
open Go.RowKit
attribute [local go_sem ↓] Go.wp_at_zero Go.wp_at_succ

/-- what digit gives -/
def RetDig (q P : Nat) (w : World) (e : Ending) (w' : World) : Prop := ∃ (g n c : Nat), e = .returned (.tuple #[.int .u32 q, .slice (some ⟨g, 0, none⟩) n c]) ∧ w.heap.size ≤ g ∧ Wrd w' (some ⟨g, 0, none⟩) n c (digs P) ∧ Below w.heap.size w w'
theorem wrd_1 (w : World) (x : Nat) (hx : x < 4294967296) (t : TypeId) : Wrd (w.alloc (.cells #[.int .u32 x] t)) (some ⟨w.heap.size, 0, none⟩) 1 1 [x] := by
  refine ⟨rfl, Nat.le_refl _, by decide, by intro y hy; simp at hy; omega, .inr ⟨_, _, rfl, fun i v hv => ?_⟩, fun h => by cases h⟩
  match i, hv with
  | 0, hv => simp at hv; subst hv; simp [go_sem]
  | i + 1, hv => simp at hv

end Go.Proofs.YtecjnnhkbmkemaaDoor
