/- awake of the laws: the examples of the document are answered as they should be. -/
import Derived.Test.YtikbnnljjeefgaaGreatDoorWAi
set_option maxHeartbeats 100000000
set_option linter.all false
namespace Go.Proofs.YtikbnnljjeefgaaGreatDoor
open Go.RowKit
theorem qC {n:Nat} (h:n≠0) (h':n<4294967296):digs n=[n]:=by
 rw[iA h,Nat.mod_eq_of_lt h',Nat.div_eq_of_lt h',aK]
def sO (w:World) (L:List (Nat × Int)):Prop:=∀p∈L,dT w p.1 p.2
theorem sO.below {w w':World} {L:List (Nat × Int)} (h:sO w L) (hb:Below w.heap.size w w'):sO w' L:=fun p hp=>(h p hp).below hb
theorem dT.fresh {w:World} {z:Int} {b:Bool} {A:Option Addr} {n c:Nat} (hz:decide (z<0)=b) (h:aC w A n c (digs z.natAbs)) (t:TypeId):dT (w.alloc (.cells #[.bool b, .slice A n c] t)) w.heap.size z:=by
 subst hz;exact⟨A,n,c,by simp[go_sem],by simp[go_sem],h.alloc _⟩
theorem sO.fresh {w:World} {L:List (Nat × Int)} {z:Int} {b:Bool} {A:Option Addr} {n c:Nat} (hL:sO w L) (hz:decide (z<0)=b) (h:aC w A n c (digs z.natAbs)) (t:TypeId):sO (w.alloc (.cells #[.bool b, .slice A n c] t)) ((w.heap.size,z)::L):=by
 intro p hp;rcases List.mem_cons.1 hp with rfl|hp
 ·exact dT.fresh hz h t
 ·exact(hL p hp).below (a8 _ _)
theorem bW.ext {w w':World} {v:Value} {z:Int} (h:bW w v z) (hb:aJ w w'):bW w' v z:=h.below hb
theorem dT.open {w:World} {g:Nat} {z:Int} (h:dT w g z) (b:Bool) (hz:decide (z<0)=b):∃A n c,w.cell? ⟨g,0,none⟩=some (.bool b)∧w.cell? ⟨g,1,none⟩=some (.slice A n c)∧bW w (.agg #[.bool b, .slice A n c]) z:=by
 obtain⟨A,n,c,h0,h1,h2⟩:=h;subst hz;exact⟨A,n,c,h0,h1,gT h2⟩
end Go.Proofs.YtikbnnljjeefgaaGreatDoor
