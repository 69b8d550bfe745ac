/- awake of the laws: the examples of the document are answered as they should be. -/
import Derived.Test.YtmkggcjajcdlcaaGreatDoorQAi
set_option maxHeartbeats 100000000
set_option linter.all false
namespace Go.Proofs.YtmkggcjajcdlcaaGreatDoor
open Go.RowKit
theorem jT {n:Nat} (h:n≠0) (h':n<4294967296):digs n=[n]:=by
 rw[el h,Nat.mod_eq_of_lt h',Nat.div_eq_of_lt h',ar]
def lZ (w:World) (L:List (Nat × Int)):Prop:=∀p∈L,bQ w p.1 p.2
theorem lZ.below {w w':World} {L:List (Nat × Int)} (h:lZ w L) (hb:Below w.heap.size w w'):lZ w' L:=fun p hp=>(h p hp).below hb
theorem bQ.fresh {w:World} {z:Int} {b:Bool} {A:Option Addr} {n c:Nat} (hz:decide (z<0)=b) (h:aj w A n c (digs z.natAbs)) (t:TypeId):bQ (w.alloc (.cells #[.bool b, .slice A n c] t)) w.heap.size z:=by
 subst hz;exact⟨A,n,c,by simp[go_sem],by simp[go_sem],h.alloc _⟩
theorem lZ.fresh {w:World} {L:List (Nat × Int)} {z:Int} {b:Bool} {A:Option Addr} {n c:Nat} (hL:lZ w L) (hz:decide (z<0)=b) (h:aj w A n c (digs z.natAbs)) (t:TypeId):lZ (w.alloc (.cells #[.bool b, .slice A n c] t)) ((w.heap.size,z)::L):=by
 intro p hp;rcases List.mem_cons.1 hp with rfl|hp
 ·exact bQ.fresh hz h t
 ·exact(hL p hp).below (aC _ _)
theorem a7.ext {w w':World} {v:Value} {z:Int} (h:a7 w v z) (hb:ak w w'):a7 w' v z:=h.below hb
theorem bQ.open {w:World} {g:Nat} {z:Int} (h:bQ w g z) (b:Bool) (hz:decide (z<0)=b):∃A n c,w.cell? ⟨g,0,none⟩=some (.bool b)∧w.cell? ⟨g,1,none⟩=some (.slice A n c)∧a7 w (.agg #[.bool b, .slice A n c]) z:=by
 obtain⟨A,n,c,h0,h1,h2⟩:=h;subst hz;exact⟨A,n,c,h0,h1,dU h2⟩
end Go.Proofs.YtmkggcjajcdlcaaGreatDoor
