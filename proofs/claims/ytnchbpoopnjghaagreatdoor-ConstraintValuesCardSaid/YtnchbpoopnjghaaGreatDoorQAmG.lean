/- What every world of a walk holds besides: the laid tables that the library reads. -/
import Derived.Test.YtnchbpoopnjghaaGreatDoorQK
import Derived.Test.YtnchbpoopnjghaaGreatDoorProg
set_option maxHeartbeats 100000000
set_option linter.all false
namespace Go.Proofs.YtnchbpoopnjghaaGreatDoor
open Go.RowKit
def o0 (w:World):Prop:=(∃m,w.cell? ⟨3,0,none⟩=some (.int .i64 m))/\(∃ev,w.cell? ⟨6,0,none⟩=some ev/\(ev= .nilIface∨ ∃te pe,ev= .iface te pe))/\ ∃ev,w.cell? ⟨7,0,none⟩=some ev/\(ev= .nilIface∨ ∃te pe,ev= .iface te pe)
def KW (w:World):Prop:=Lib.TabIs Tryz.prog w "internal/strconv.uint64pow10" .u64 Lib.pow10Tab/\o0 w
def m0 (w:World):Prop:=∀w',Below w.heap.size w w'->KW w'
theorem m0.mono {w w':World} {B:Nat} (hb:Below B w w') (hB:w.heap.size=B) (h:m0 w):m0 w':=by subst hB;exact fun w'' h'=>h w'' (hb.trans (h'.mono hb.size))
theorem m0.here {w:World} (h:m0 w):Lib.TabIs Tryz.prog w "internal/strconv.uint64pow10" .u64 Lib.pow10Tab:=(h w (Below.refl _ _)).1
theorem m0.vars {w:World} (h:m0 w):o0 w:=(h w (Below.refl _ _)).2
end Go.Proofs.YtnchbpoopnjghaaGreatDoor
