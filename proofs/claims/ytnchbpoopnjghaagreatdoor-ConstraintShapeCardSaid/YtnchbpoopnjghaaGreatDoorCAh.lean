/- Same of the reference, same of the laws. cp of the laws. small of the laws. Parse of the program at the two texts of awake. Sqrt of the program, leaning on what divide gives. -/
import Derived.Test.YtnchbpoopnjghaaGreatDoorCAg
set_option maxHeartbeats 100000000
set_option maxRecDepth 100000
set_option linter.all false
namespace Go.Proofs.YtnchbpoopnjghaaGreatDoor
open Go.RowKit
section
attribute [local go_sem ↓] Go.wp_at_zero Go.wp_at_succ
def CW (b:Bool) (w:World) (e:Ending) (w':World):Prop:=e= .returned (.bool b)/\Below w.heap.size w w'
def sameB (na nb:Bool) (xs ys:List Nat):Bool:=na == nb && decide (xs=ys)
theorem IA (w:World) (a0 a1 b0 b1:Value) (t:TypeId) (W:World) (hW:W=(w.alloc (.cells #[a0,a1] t)).alloc (.cells #[b0,b1] t)):
 (W.cell? ⟨w.heap.size,0,none⟩=some a0/\W.cell? ⟨w.heap.size,1,none⟩=some a1/\W.cell? ⟨w.heap.size+1,0,none⟩=some b0/\W.cell? ⟨w.heap.size+1,1,none⟩=some b1)/\bw w W:=by
 have h0:bw w W:=by rw[hW];exact((bw.refl w).alloc _).alloc _
 refine⟨?_,h0⟩;subst hW;simp[go_sem]
end
def Ry (z:Int) (n:Int) (w:World) (e:Ending) (w':World):Prop:=∃v,e= .returned (.tuple #[v, .int .i64 n])/\dr w' v z/\Below w.heap.size w w'
end Go.Proofs.YtnchbpoopnjghaaGreatDoor
