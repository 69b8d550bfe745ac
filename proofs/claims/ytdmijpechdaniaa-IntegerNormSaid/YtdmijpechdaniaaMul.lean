/- Mul of the program. -/
import Derived.Test.YtdmijpechdaniaaHeldK
namespace Go.Proofs.Ytdmijpechdaniaa
open Go.RowKit
attribute [local go_sem ↓] Go.wp_at_zero Go.wp_at_succ

/-- signed, the integer named -/
theorem i_signed_z {neg : Bool} {A : Option Addr} {n c : Nat} {xs : List Nat} {w : World} {z : Int} (h : Wrd w A n c xs) (hz : toZ neg xs = z) : Calls Try.prog 48 #[.bool neg, .slice A n c] w (RetInt z w) := hz ▸ i_signed neg A n c xs w h
theorem r1_signed_z {neg : Bool} {A : Option Addr} {n c : Nat} {xs : List Nat} {w : World} {z : Int} (h : Wrd w A n c xs) (hz : toZ neg xs = z) : Calls Try.prog 51 #[.bool neg, .slice A n c] w (RetInt z w) := hz ▸ r1_signed neg A n c xs w h

theorem trim_len {xs : List Nat} (h : Wd xs) (h1 : xs.length ≤ 2147483648) : (trim xs).length ≤ 4294967296 := by have := trim_length h; omega
theorem toZ_mul (na nb : Bool) (xs ys zs : List Nat) (h : val zs = val xs * val ys) : toZ (!(na == nb)) zs = toZ na xs * toZ nb ys := by
  unfold toZ
  rw [h]
  cases na <;> cases nb <;> simp [Int.neg_mul, Int.mul_neg]

set_option maxHeartbeats 1000000 in
theorem i_Mul (va vb : Value) (na nb : Bool) (xs ys : List Nat) (w : World) (ha : IntR w va na xs) (hb : IntR w vb nb ys) (h1 : xs.length ≤ 2147483648) (h2 : ys.length ≤ 2147483648) :
    Calls Try.prog 14 #[va, vb] w (RetInt (toZ na xs * toZ nb ys) w) := by
  obtain ⟨A, n, c, rfl, hx⟩ := ha
  obtain ⟨B, m, d, rfl, hy⟩ := hb
  obtain ⟨W, hW⟩ : ∃ W, W = ((w.alloc (.cells #[.bool na, .slice A n c] 24)).alloc (.cells #[.bool nb, .slice B m d] 24)).alloc (.cells #[.bool false, .slice none 0 0] 24) := ⟨_, rfl⟩
  obtain ⟨⟨ca0, ca1, cb0, cb1⟩, ⟨cr0, cr1, fr0, fr1⟩, hbW⟩ := two_boxes w _ _ _ _ _ _ _ W hW
  have hl1 := trim_len hx.wd h1
  have hl2 := trim_len hy.wd h2
  have hE : Ext W W.drew := (Ext.refl W).drew
  have Hx := Lib.hid hx
  have Hy := Lib.hid hy
  obtain ⟨z, hz⟩ : ∃ z, z = toZ na xs * toZ nb ys := ⟨_, rfl⟩
  rw [← hz]
  have hz1 : toZ (!(na == nb)) (digs (val (trim xs) * val (trim ys))) = z := by rw [hz]; exact toZ_mul na nb xs ys _ (by rw [val_digs, val_trim, val_trim])
  have Hz := Lib.hid hz1
  clear hx hy hz hz1
  go_enter Try.func14, Try.ntmps14
  go_wp2_with fail
  rw [← hW]
  clear hW
  go_region_held3 (fun w' => w'.cell? ⟨w.heap.size, 0, none⟩ = some (.bool na) ∧ w'.cell? ⟨w.heap.size, 1, none⟩ = some (.slice A n c) ∧ w'.cell? ⟨w.heap.size + 1, 0, none⟩ = some (.bool nb) ∧ w'.cell? ⟨w.heap.size + 1, 1, none⟩ = some (.slice B m d) ∧ Ext w w')
    (first | exact ⟨ca0, ca1, cb0, cb1, hbW.drew⟩ | assumption | exact keep4 (by assumption) (by assumption) | exact keep4s (by assumption) (by omega) (by dsimp only; omega) (by dsimp only; omega) (by dsimp only; omega) (by dsimp only; omega))
    (first
      | ((go_at_call 50; (with_reducible refine (i_trim A n c xs _ (Hx.out.below (ext4 (by assumption)))).mono ?_); rintro e w' ⟨rfl, rfl⟩))
      | ((go_at_call 50; (with_reducible refine (i_trim B m d ys _ (Hy.out.below (ext4 (by assumption)))).mono ?_); rintro e w' ⟨rfl, rfl⟩))
      | ((go_at_call 49; (with_reducible refine (i_times _ _ _ _ _ _ (trim xs) (trim ys) _ (Hx.out.trim.below (ext4 (by assumption))) (Hy.out.trim.below (ext4 (by assumption))) hl1 hl2).mono ?_); rintro e w1 ⟨A1, n1, c1, zs, rfl, hw1, rfl, hb1⟩; have hE1 := Ext.more (by assumption) hb1))
      | ((go_at_call 48; (with_reducible refine (i_signed_z (by assumption) Hz.out).mono ?_); rintro e w2 ⟨v2, rfl, ⟨A2, n2, c2, rfl, hw2⟩, hb2⟩; have hE2 := Ext.more (by assumption) hb2; have su0 := kc cr0 hE2; have su1 := kc cr1 hE2; have sf0 := kf cr0 fr0 hE2; have sf1 := kf cr1 fr1 hE2)))
  go_wp2_with fail
  exact bodyPost_ret (v := .agg #[.bool (decide (z < 0)), .slice A2 n2 c2]) (by simp [results, Try.results14, go_sem, su0, su1]) rfl (fin_int su0 su1 hw2 (hbW.trans hE2) (by omega))

end Go.Proofs.Ytdmijpechdaniaa
