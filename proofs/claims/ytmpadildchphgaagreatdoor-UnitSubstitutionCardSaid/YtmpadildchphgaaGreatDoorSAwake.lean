/- awake of the laws: the examples of the document are answered as they should be. -/
import Derived.Test.YtmpadildchphgaaGreatDoorSAi
namespace Go.Proofs.YtmpadildchphgaaGreatDoor
open Go.RowKit
theorem digs_small {n : Nat} (h : n ≠ 0) (h' : n < 4294967296) : digs n = [n] := by
  rw [digs_pos h, Nat.mod_eq_of_lt h', Nat.div_eq_of_lt h', digs_zero]
def Dones (w : World) (L : List (Nat × Int)) : Prop := ∀ p ∈ L, Done w p.1 p.2
theorem Dones.below {w w' : World} {L : List (Nat × Int)} (h : Dones w L) (hb : Below w.heap.size w w') : Dones w' L := fun p hp => (h p hp).below hb
theorem Done.fresh {w : World} {z : Int} {b : Bool} {A : Option Addr} {n c : Nat} (hz : decide (z < 0) = b) (h : Wrd w A n c (digs z.natAbs)) (t : TypeId) : Done (w.alloc (.cells #[.bool b, .slice A n c] t)) w.heap.size z := by
  subst hz
  exact ⟨A, n, c, by simp [go_sem], by simp [go_sem], h.alloc _⟩
theorem Dones.fresh {w : World} {L : List (Nat × Int)} {z : Int} {b : Bool} {A : Option Addr} {n c : Nat} (hL : Dones w L) (hz : decide (z < 0) = b) (h : Wrd w A n c (digs z.natAbs)) (t : TypeId) : Dones (w.alloc (.cells #[.bool b, .slice A n c] t)) ((w.heap.size, z) :: L) := by
  intro p hp
  rcases List.mem_cons.1 hp with rfl | hp
  · exact Done.fresh hz h t
  · exact (hL p hp).below (below_alloc _ _)
theorem IntV.ext {w w' : World} {v : Value} {z : Int} (h : IntV w v z) (hb : Ext w w') : IntV w' v z := h.below hb
theorem Done.open {w : World} {g : Nat} {z : Int} (h : Done w g z) (b : Bool) (hz : decide (z < 0) = b) : ∃ A n c, w.cell? ⟨g, 0, none⟩ = some (.bool b) ∧ w.cell? ⟨g, 1, none⟩ = some (.slice A n c) ∧ IntV w (.agg #[.bool b, .slice A n c]) z := by
  obtain ⟨A, n, c, h0, h1, h2⟩ := h
  subst hz
  exact ⟨A, n, c, h0, h1, intV_mk h2⟩
end Go.Proofs.YtmpadildchphgaaGreatDoor
