/- What every world of a walk holds besides: the laid tables that the library reads. -/
import Derived.Test.YtnchbpoopnjghaaGreatDoorHK
import Derived.Test.YtnchbpoopnjghaaGreatDoorProg
set_option maxHeartbeats 100000000
set_option linter.all false
namespace Go.Proofs.YtnchbpoopnjghaaGreatDoor
open Go.RowKit
def om (w:World):Prop:=(∃m,w.cell? ⟨3,0,none⟩=some (.int .i64 m))/\(∃ev,w.cell? ⟨6,0,none⟩=some ev/\(ev= .nilIface∨ ∃te pe,ev= .iface te pe))/\ ∃ev,w.cell? ⟨7,0,none⟩=some ev/\(ev= .nilIface∨ ∃te pe,ev= .iface te pe)
def Ip (w:World):Prop:=Lib.TabIs Tryz.prog w "internal/strconv.uint64pow10" .u64 Lib.pow10Tab/\om w
def mB (w:World):Prop:=∀w',Below w.heap.size w w'->Ip w'
theorem mB.mono {w w':World} {B:Nat} (hb:Below B w w') (hB:w.heap.size=B) (h:mB w):mB w':=by subst hB;exact fun w'' h'=>h w'' (hb.trans (h'.mono hb.size))
theorem mB.here {w:World} (h:mB w):Lib.TabIs Tryz.prog w "internal/strconv.uint64pow10" .u64 Lib.pow10Tab:=(h w (Below.refl _ _)).1
theorem mB.vars {w:World} (h:mB w):om w:=(h w (Below.refl _ _)).2
end Go.Proofs.YtnchbpoopnjghaaGreatDoor
