/- What every world of a walk holds besides: the laid tables that the library reads. -/
import Derived.Test.YtnchbpoopnjghaaGreatDoorRK
import Derived.Test.YtnchbpoopnjghaaGreatDoorProg
set_option maxHeartbeats 100000000
set_option linter.all false
namespace Go.Proofs.YtnchbpoopnjghaaGreatDoor
open Go.RowKit
def o8(w:World):Prop:=(∃m,w.cell? ⟨3,0,none⟩=some (.int .i64 m))/\(∃a,w.cell? ⟨6,0,none⟩=some a/\(a= .nilIface∨ ∃c b,a= .iface c b))/\ ∃a,w.cell? ⟨7,0,none⟩=some a/\(a= .nilIface∨ ∃c b,a= .iface c b)
def H3(w:World):Prop:=Lib.TabIs Tryz.prog w "internal/strconv.uint64pow10" .u64 Lib.pow10Tab/\o8 w
def lX(w:World):Prop:=∀a,Below w.heap.size w a->H3 a
def lX.mono{w w':World}{B:Nat}(b:Below B w w')(d:w.heap.size=B)(h:lX w):lX w':=by subst d;exact fun a c=>h a (b.trans (c.mono b.size))
def lX.here{w:World}(h:lX w):Lib.TabIs Tryz.prog w "internal/strconv.uint64pow10" .u64 Lib.pow10Tab:=(h w (Below.refl _ _)).1
def lX.vars{w:World}(h:lX w):o8 w:=(h w (Below.refl _ _)).2
end Go.Proofs.YtnchbpoopnjghaaGreatDoor
