/- cp of the laws. -/
import Derived.Test.YtdmijpechdaniaaSame
import Derived.Deep.AppendLies
namespace Go.Proofs.Ytdmijpechdaniaa
open Go.RowKit
attribute [local go_sem ↓] Go.wp_at_zero Go.wp_at_succ

/-- what a function that returns an integer, whatever its form, gives -/
def RetR (na : Bool) (xs : List Nat) (w : World) (e : Ending) (w' : World) : Prop := ∃ v, e = .returned v ∧ IntR w' v na xs ∧ Below w.heap.size w w'

set_option maxHeartbeats 800000 in
theorem l1_cp (va : Value) (na : Bool) (xs : List Nat) (w : World) (ha : IntR w va na xs) (hs : xs.length ≤ 4294967296) :
    Calls Try.prog 15 #[va] w (RetR na xs w) := by
  obtain ⟨A, n, c, rfl, hx⟩ := ha
  obtain ⟨W, hW⟩ : ∃ W, W = (w.alloc (.cells #[.bool na, .slice A n c] 24)).alloc (.cells #[.bool false, .slice none 0 0] 24) := ⟨_, rfl⟩
  obtain ⟨⟨ca0, ca1⟩, ⟨cr0, cr1, fr0, fr1⟩, hbW⟩ := one_box w _ _ _ _ _ W hW
  have hH := keep2 ⟨ca0, ca1, hbW⟩ (Below.drew (Below.refl _ _))
  have hA := keep2 (keep2a (o := .cells #[] 47) ⟨ca0, ca1, hbW⟩) (Below.drew (Below.refl _ _))
  have hn : n ≤ 4294967296 := by rw [← hx.len]; exact hs
  have Hx := Lib.hid (hx.ext ((hbW.alloc (.cells #[] 47)).drew))
  clear hx
  go_enter Try.func15, Try.ntmps15
  go_wp2_with fail
  rw [← hW]
  clear hW
  go_region_held3 (fun w' => w'.cell? ⟨w.heap.size, 0, none⟩ = some (.bool na) ∧ w'.cell? ⟨w.heap.size, 1, none⟩ = some (.slice A n c) ∧ Ext w w')
    (with_reducible first | exact hH | exact hA | assumption | exact keep2a (by assumption) | exact keep2 (by assumption) (by assumption) | exact keep2s (by assumption) (by omega) (by dsimp only; omega) (by dsimp only; omega))
    (first
      | (refine step_append_wrd rfl _ _ rfl rfl rfl (heap_alloc_new W (.cells #[] 47)) (Nat.le_refl _) Hx.out hn ?_; intro A1 c1 w1 hw1 hb1; have hE1 : Ext W w1 := Below.trans (((Ext.refl W).alloc (.cells #[] 47)).drew : Below W.heap.size W _) hb1; have hK1 := keep2 ⟨ca0, ca1, hbW⟩ hE1; have su0 := kc cr0 hE1; have su1 := kc cr1 hE1; have sf0 := kf cr0 fr0 hE1; have sf1 := kf cr1 fr1 hE1))
  go_wp2_with fail
  exact bodyPost_ret (v := .agg #[.bool na, .slice A1 n c1]) (by simp [results, Try.results15, go_sem, su0, su1]) rfl ⟨_, rfl, ⟨_, _, _, rfl, hw1.set2 (Slot.mk su0 su1 sf0 sf1) _ _⟩, Ext.set2 hK1.2.2 (Nat.le_succ _) _ _⟩

end Go.Proofs.Ytdmijpechdaniaa
