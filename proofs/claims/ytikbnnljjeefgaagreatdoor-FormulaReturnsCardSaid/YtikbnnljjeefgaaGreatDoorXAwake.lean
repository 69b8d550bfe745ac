/- awake of the laws: the examples of the document are answered as they should be. -/
import Derived.Test.YtikbnnljjeefgaaGreatDoorXAi
set_option maxHeartbeats 100000000
namespace Go.Proofs.YtikbnnljjeefgaaGreatDoor
open Go.RowKit
theorem pv {n:Nat} (h:n≠0) (h':n<4294967296):digs n=[n]:=by
 rw[il h,Nat.mod_eq_of_lt h',Nat.div_eq_of_lt h',aD]
def rM (w:World) (L:List (Nat × Int)):Prop:=∀p∈L,dO w p.1 p.2
theorem rM.below {w w':World} {L:List (Nat × Int)} (h:rM w L) (hb:Below w.heap.size w w'):rM w' L:=fun p hp=>(h p hp).below hb
theorem dO.fresh {w:World} {z:Int} {b:Bool} {A:Option Addr} {n c:Nat} (hz:decide (z<0)=b) (h:az w A n c (digs z.natAbs)) (t:TypeId):dO (w.alloc (.cells #[.bool b, .slice A n c] t)) w.heap.size z:=by
 subst hz;exact⟨A,n,c,by simp[go_sem],by simp[go_sem],h.alloc _⟩
theorem rM.fresh {w:World} {L:List (Nat × Int)} {z:Int} {b:Bool} {A:Option Addr} {n c:Nat} (hL:rM w L) (hz:decide (z<0)=b) (h:az w A n c (digs z.natAbs)) (t:TypeId):rM (w.alloc (.cells #[.bool b, .slice A n c] t)) ((w.heap.size,z)::L):=by
 intro p hp;rcases List.mem_cons.1 hp with rfl|hp
 ·exact dO.fresh hz h t
 ·exact(hL p hp).below (aU _ _)
theorem bQ.ext {w w':World} {v:Value} {z:Int} (h:bQ w v z) (hb:aG w w'):bQ w' v z:=h.below hb
theorem dO.open {w:World} {g:Nat} {z:Int} (h:dO w g z) (b:Bool) (hz:decide (z<0)=b):∃A n c,w.cell? ⟨g,0,none⟩=some (.bool b)∧w.cell? ⟨g,1,none⟩=some (.slice A n c)∧bQ w (.agg #[.bool b, .slice A n c]) z:=by
 obtain⟨A,n,c,h0,h1,h2⟩:=h;subst hz;exact⟨A,n,c,h0,h1,gN h2⟩
end Go.Proofs.YtikbnnljjeefgaaGreatDoor
