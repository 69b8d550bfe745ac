/- awake of the laws: the examples of the document are answered as they should be. -/
import Derived.Test.YtikbnnljjeefgaaGreatDoorXAi
set_option maxHeartbeats 100000000
set_option linter.all false
namespace Go.Proofs.YtikbnnljjeefgaaGreatDoor
open Go.RowKit
theorem p9 {n:Nat} (h:n≠0) (h':n<4294967296):digs n=[n]:=by
 rw[iv h,Nat.mod_eq_of_lt h',Nat.div_eq_of_lt h',aF]
def tw (w:World) (L:List (Nat × Int)):Prop:=∀p∈L,dO w p.1 p.2
theorem tw.below {w w':World} {L:List (Nat × Int)} (h:tw w L) (hb:Below w.heap.size w w'):tw w' L:=fun p hp=>(h p hp).below hb
theorem dO.fresh {w:World} {z:Int} {b:Bool} {A:Option Addr} {n c:Nat} (hz:decide (z<0)=b) (h:ay w A n c (digs z.natAbs)) (t:TypeId):dO (w.alloc (.cells #[.bool b, .slice A n c] t)) w.heap.size z:=by
 subst hz;exact⟨A,n,c,by simp[go_sem],by simp[go_sem],h.alloc _⟩
theorem tw.fresh {w:World} {L:List (Nat × Int)} {z:Int} {b:Bool} {A:Option Addr} {n c:Nat} (hL:tw w L) (hz:decide (z<0)=b) (h:ay w A n c (digs z.natAbs)) (t:TypeId):tw (w.alloc (.cells #[.bool b, .slice A n c] t)) ((w.heap.size,z)::L):=by
 intro p hp;rcases List.mem_cons.1 hp with rfl|hp
 ·exact dO.fresh hz h t
 ·exact(hL p hp).below (a7 _ _)
theorem bY.ext {w w':World} {v:Value} {z:Int} (h:bY w v z) (hb:aK w w'):bY w' v z:=h.below hb
theorem dO.open {w:World} {g:Nat} {z:Int} (h:dO w g z) (b:Bool) (hz:decide (z<0)=b):∃A n c,w.cell? ⟨g,0,none⟩=some (.bool b)∧w.cell? ⟨g,1,none⟩=some (.slice A n c)∧bY w (.agg #[.bool b, .slice A n c]) z:=by
 obtain⟨A,n,c,h0,h1,h2⟩:=h;subst hz;exact⟨A,n,c,h0,h1,gU h2⟩
end Go.Proofs.YtikbnnljjeefgaaGreatDoor
