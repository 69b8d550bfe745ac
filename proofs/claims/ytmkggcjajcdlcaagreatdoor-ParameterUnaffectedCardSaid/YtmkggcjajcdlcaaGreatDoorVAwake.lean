/- awake of the laws: the examples of the document are answered as they should be. -/
import Derived.Test.YtmkggcjajcdlcaaGreatDoorVAi
set_option maxHeartbeats 100000000
set_option linter.all false
namespace Go.Proofs.YtmkggcjajcdlcaaGreatDoor
open Go.RowKit
theorem rU {n:Nat} (h:n≠0) (h':n<4294967296):digs n=[n]:=by
 rw[gG h,Nat.mod_eq_of_lt h',Nat.div_eq_of_lt h',aG]
def Gk (w:World) (L:List (Nat × Int)):Prop:=∀p∈L,ep w p.1 p.2
theorem Gk.below {w w':World} {L:List (Nat × Int)} (h:Gk w L) (hb:Below w.heap.size w w'):Gk w' L:=fun p hp=>(h p hp).below hb
theorem dz.ext {w w':World} {v:Value} {z:Int} (h:dz w v z) (hb:aK w w'):dz w' v z:=h.below hb
theorem ep.open {w:World} {g:Nat} {z:Int} (h:ep w g z) (b:Bool) (hz:decide (z<0)=b):∃A n c,w.cell? ⟨g,0,none⟩=some (.bool b)/\w.cell? ⟨g,1,none⟩=some (.slice A n c)/\dz w (.agg #[.bool b, .slice A n c]) z:=by
 obtain⟨A,n,c,h0,h1,h2⟩:=h;subst hz;exact⟨A,n,c,h0,h1,KG h2⟩
end Go.Proofs.YtmkggcjajcdlcaaGreatDoor
