/- times and minus of the reference once more: what they return is new memory. -/
import Derived.Test.YtecjnnhkbmkemaaDoorAd
import Derived.Test.YtecjnnhkbmkemaaDoorAc
namespace Go.Proofs.YtecjnnhkbmkemaaDoor
open Go.RowKit

/-- words in new memory -/
def RetWF (zs : List Nat) (w : World) (e : Ending) (w' : World) : Prop := ∃ (g n c : Nat), e = .returned (.slice (some ⟨g, 0, none⟩) n c) ∧ w.heap.size ≤ g ∧ Wrd w' (some ⟨g, 0, none⟩) n c zs ∧ Below w.heap.size w w'

end Go.Proofs.YtecjnnhkbmkemaaDoor
