/- awake of the laws: the examples of the document are answered as they should be. -/
import Derived.Test.YtecjnnhkbmkemaaGreatDoorAi
namespace Go.Proofs.YtecjnnhkbmkemaaGreatDoor
open Go.RowKit

theorem digs_2e32 : digs 4294967296 = [0, 1] := by
  rw [digs_pos (by decide), digs_pos (by decide), show 4294967296 / 4294967296 / 4294967296 = 0 by decide, digs_zero]
theorem digs_small {n : Nat} (h : n ≠ 0) (h' : n < 4294967296) : digs n = [n] := by
  rw [digs_pos h, Nat.mod_eq_of_lt h', Nat.div_eq_of_lt h', digs_zero]

theorem aw_pow {v : Value} {w : World} (h : IntV w v 2) : Calls Tryz.prog 163 #[v, .int .i64 32] w (RetE 4294967296 0 w) := by
  have h2 : IntR w v false (digs 2) := h
  have := i_Pow v false (digs 2) 32 2 w h2 (by omega) (by omega) (by rw [val_digs]; decide) (by rw [digs_small (by decide) (by decide)]; decide)
  rw [show toZ false (digs 2) = 2 by unfold toZ; rw [val_digs]; rfl] at this
  exact this
theorem aw_div {v1 v2 : Value} {a b q r : Int} {w : World} (h1 : IntV w v1 a) (h2 : IntV w v2 b) (ha : a.natAbs < 18446744073709551616) (hb : 0 < b.natAbs) (hb' : b.natAbs < 18446744073709551616) (hq : a.fdiv b = q) (hr : a.fmod b = r) :
    Calls Tryz.prog 53 #[v1, v2] w (RetDM q r w) := by
  have l1 := digs_length_le (k := 2) ha
  have l2 := digs_length_le (k := 2) hb'
  have := i_DivMod v1 v2 _ _ _ _ w h1 h2 (by omega) (by omega) (by rw [val_digs, val_digs]; exact divOk_small ha hb) (by rw [val_digs]; omega)
  rw [toZ_int, toZ_int, hq, hr] at this
  exact this
theorem aw_sqrt {v : Value} {w : World} (h : IntV w v 99) : Calls Tryz.prog 100 #[v] w (RetE 9 0 w) := by
  have h2 : IntR w v false (digs 99) := h
  have := i_Sqrt v (digs 99) w h2 (by rw [digs_small (by decide) (by decide)]; decide) (fun b hb => by rw [val_digs]; exact divOk_small (by decide) hb) (by rw [val_digs]; decide)
  rw [val_digs] at this
  refine this.mono ?_
  rintro e w' ⟨r, h1, h2, h3⟩
  have hr : r = 9 := by
    rcases Nat.lt_or_ge r 9 with h | h
    · have : (r + 1) * (r + 1) ≤ 9 * 9 := Nat.mul_le_mul h h
      omega
    · rcases Nat.lt_or_ge 9 r with h' | h'
      · have : 10 * 10 ≤ r * r := Nat.mul_le_mul h' h'
        omega
      · omega
  rw [hr] at h3
  exact h3
/-- places that hold integers -/
def Dones (w : World) (L : List (Nat × Int)) : Prop := ∀ p ∈ L, Done w p.1 p.2
theorem Dones.below {w w' : World} {L : List (Nat × Int)} (h : Dones w L) (hb : Below w.heap.size w w') : Dones w' L := fun p hp => (h p hp).below hb
theorem Done.fresh {w : World} {z : Int} {b : Bool} {A : Option Addr} {n c : Nat} (hz : decide (z < 0) = b) (h : Wrd w A n c (digs z.natAbs)) (t : TypeId) : Done (w.alloc (.cells #[.bool b, .slice A n c] t)) w.heap.size z := by
  subst hz
  exact ⟨A, n, c, by simp [go_sem], by simp [go_sem], h.alloc _⟩
theorem Dones.fresh {w : World} {L : List (Nat × Int)} {z : Int} {b : Bool} {A : Option Addr} {n c : Nat} (hL : Dones w L) (hz : decide (z < 0) = b) (h : Wrd w A n c (digs z.natAbs)) (t : TypeId) : Dones (w.alloc (.cells #[.bool b, .slice A n c] t)) ((w.heap.size, z) :: L) := by
  intro p hp
  rcases List.mem_cons.1 hp with rfl | hp
  · exact Done.fresh hz h t
  · exact (hL p hp).below (below_alloc _ _)

theorem wrd_01 (w : World) (t : TypeId) : Wrd (w.alloc (.cells #[.int .u32 0, .int .u32 1] t)) (some ⟨w.heap.size, 0, none⟩) 2 2 [0, 1] := by
  refine ⟨rfl, Nat.le_refl _, by decide, by intro x hx; simp at hx; omega, .inr ⟨_, _, rfl, fun i v hv => ?_⟩, fun h => by cases h⟩
  match i, hv with
  | 0, hv => simp at hv; subst hv; simp [go_sem]
  | 1, hv => simp at hv; subst hv; simp [go_sem]
  | i + 2, hv => simp at hv
theorem IntV.ext {w w' : World} {v : Value} {z : Int} (h : IntV w v z) (hb : Ext w w') : IntV w' v z := h.below hb
theorem Done.open {w : World} {g : Nat} {z : Int} (h : Done w g z) (b : Bool) (hz : decide (z < 0) = b) : ∃ A n c, w.cell? ⟨g, 0, none⟩ = some (.bool b) ∧ w.cell? ⟨g, 1, none⟩ = some (.slice A n c) ∧ IntV w (.agg #[.bool b, .slice A n c]) z := by
  obtain ⟨A, n, c, h0, h1, h2⟩ := h
  subst hz
  exact ⟨A, n, c, h0, h1, intV_mk h2⟩

end Go.Proofs.YtecjnnhkbmkemaaGreatDoor
