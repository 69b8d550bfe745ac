/- divide of the program where the quotient is 0 or the dividend has at most two words. -/
import Derived.Test.YtdmijpechdaniaaShiftR
import Derived.Test.YtdmijpechdaniaaCmp
import Derived.Test.YtdmijpechdaniaaMinus
import Derived.Test.YtdmijpechdaniaaPlus2
namespace Go.Proofs.Ytdmijpechdaniaa
open Go.RowKit

/-- what divide gives -/
def RetQR (q r : Nat) (w : World) (e : Ending) (w' : World) : Prop := ∃ (A : Option Addr) (n c : Nat) (B : Option Addr) (m d : Nat),
  e = .returned (.tuple #[.slice A n c, .slice B m d]) ∧ Wrd w' A n c (digs q) ∧ Wrd w' B m d (digs r) ∧ Below w.heap.size w w'

theorem ordI_ge {a b : Int} (h : ¬ a < b) : 0 ≤ ordI a b := by unfold ordI; rw [if_neg h]; split <;> decide

theorem ext_drewN (w : World) (q : Nat) : Ext w (w.drewN q) := ⟨rfl, rfl, rfl, Nat.le_refl _, fun _ _ => rfl⟩

set_option maxRecDepth 100000 in
set_option maxHeartbeats 1600000 in
theorem i_divide_lt (A B : Option Addr) (n c m d a b : Nat) (w : World) (hx : Wrd w A n c (digs a)) (hy : Wrd w B m d (digs b)) (hab : a < b) (hs : n ≤ 4294967296) :
    Calls Try.prog 53 #[.slice A n c, .slice B m d] w (RetQR (a / b) (a % b) w) := by
  have e1 : a / b = 0 := Nat.div_eq_of_lt hab
  have e2 : a % b = a := Nat.mod_eq_of_lt hab
  rw [e1, e2]
  have hcmp := i_compare A B n m c d (digs a) (digs b) w hx hy
  rw [cmpW_digs, ordI_lt (by omega)] at hcmp
  have hlen := hx.len
  have Hx := Lib.hid hx
  have Hc := Lib.hid hcmp
  have Hl := Lib.hid hlen
  clear hx hy hcmp e1 e2 hlen
  go_enter Try.func53, Try.ntmps53
  go_wp2_with (first
    | (go_at_call 63; (with_reducible refine Hc.out.mono ?_); rintro e w' ⟨rfl, q, rfl⟩)
    | (go_at_call 68; (with_reducible refine (clone_u32 A n c (digs a) _ (Hx.out.drewN _) (by omega)).mono ?_); rintro e w1 ⟨A1, n1, c1, zs, rfl, hw1, rfl, hb1⟩))
  refine bodyPost_ret (v := .tuple #[.slice none 0 0, .slice A1 n1 c1]) (by simp [results, Try.results53, go_sem]) rfl ?_
  exact ⟨none, 0, 0, A1, n1, c1, rfl, by rw [digs_zero]; exact Wrd.nil _, hw1, (ext_drewN w q).trans hb1⟩

theorem digs_le2 {a n : Nat} (h : (digs a).length = n) (h2 : n ≤ 2) : a < 18446744073709551616 := by
  have := lt_of_digs (n := a) (k := 2) (by omega)
  omega

set_option maxRecDepth 100000 in
set_option maxHeartbeats 1600000 in
theorem i_divide_two (A B : Option Addr) (n c m d a b : Nat) (w : World) (hx : Wrd w A n c (digs a)) (hy : Wrd w B m d (digs b)) (hab : b ≤ a) (hb0 : 0 < b) (hs : n ≤ 2) :
    Calls Try.prog 53 #[.slice A n c, .slice B m d] w (RetQR (a / b) (a % b) w) := by
  have hcmp := i_compare A B n m c d (digs a) (digs b) w hx hy
  rw [cmpW_digs] at hcmp
  have ho := ordI_ge (a := (a : Int)) (b := b) (by omega)
  have h64 := digs_le2 hx.len hs
  have hb64 : b < 18446744073709551616 := by omega
  have hm2 : m ≤ 2 := by rw [← hy.len]; exact digs_length_le (by omega)
  have ha := i_toUint A n c (digs a)
  have hb := i_toUint B m d (digs b)
  rw [val_digs] at ha hb
  have Ha := Lib.hid (fun W hW => ha W hW hs)
  have Hb := Lib.hid (fun W hW => hb W hW hm2)
  have Hx := Lib.hid hx
  have Hy := Lib.hid hy
  have Hc := Lib.hid hcmp
  generalize ordI a b = o at *
  obtain ⟨q0, hq0⟩ : ∃ q0, q0 = a / b := ⟨_, rfl⟩
  obtain ⟨r0, hr0⟩ : ∃ r0, r0 = a % b := ⟨_, rfl⟩
  have hq : q0 < 18446744073709551616 := by rw [hq0]; exact Nat.lt_of_le_of_lt (Nat.div_le_self _ _) h64
  have hr : r0 < 18446744073709551616 := by rw [hr0]; exact Nat.lt_of_le_of_lt (Nat.mod_le _ _) h64
  have eq1 : (a : Int) / b = q0 := by rw [hq0, Int.natCast_ediv]
  have er1 : (a : Int) % b = r0 := by rw [hr0, Int.natCast_emod]
  have hn1 : ¬ b = 0 := by omega
  have eq2 : Int.tdiv (a : Int) b = q0 := by rw [Int.tdiv_eq_ediv_of_nonneg (by omega), eq1]
  have er2 : Int.tmod (a : Int) b = r0 := by rw [Int.tmod_eq_emod_of_nonneg (by omega), er1]
  have eq3 : IntKind.u64.wrap (q0 : Int) = q0 := by rw [IntKind.wrap_u64]; omega
  have er3 : IntKind.u64.wrap (r0 : Int) = r0 := by rw [IntKind.wrap_u64]; omega
  rw [← hq0, ← hr0]
  have Hq0 := Lib.hid hq0
  have Hr0 := Lib.hid hr0
  clear hq0 hr0
  have hs' : (n : Int) ≤ 2 := by omega
  have ho' : ¬ o < 0 := by omega
  clear hx hy hcmp ha hb hab hb0 ho
  go_enter Try.func53, Try.ntmps53
  go_wp2_with (first
    | (go_at_call 63; (with_reducible refine Hc.out.mono ?_); rintro e w' ⟨rfl, q, rfl⟩)
    | (go_at_call 69; (with_reducible refine (Ha.out _ (Hx.out.drewN _)).mono ?_); rintro e w1 ⟨rfl, hb1⟩)
    | (go_at_call 69; (with_reducible refine (Hb.out _ ((Hy.out.drewN _).below hb1)).mono ?_); rintro e w2 ⟨rfl, hb2⟩))
  rename_i K1 hK1 ho2 K2 hK2
  clear hK1 ho2
  have HK2 := Lib.hid hK2
  clear hK2 Ha Hb Hc Hx Hy hs'
  have hE2 : Ext w2 w2.drew := (Ext.refl w2).drew
  go_region_held3 (fun w' => Ext w2 w')
    (first | exact hE2 | assumption | exact Ext.more (by assumption) (by assumption))
    (first
    | ((go_at_call 70; (with_reducible refine (i_fromUint q0 hq _).mono ?_); rintro e w3 ⟨A3, n3, c3, zs3, rfl, hw3, rfl, hb3⟩))
    | ((go_at_call 70; (with_reducible refine (i_fromUint r0 hr _).mono ?_); rintro e w4 ⟨A4, n4, c4, zs4, rfl, hw4, rfl, hb4⟩)))
  all_goals (
    refine HK2.out _ _ ?_
    go_wp2
    refine bodyPost_ret (v := .tuple #[.slice A3 n3 c3, .slice A4 n4 c4]) (by simp [results, Try.results53, go_sem]) rfl ?_
    first
      | exact ⟨A3, n3, c3, A4, n4, c4, rfl, hw3.below hb4, hw4, (((ext_drewN w q).more hb1).more hb2).trans (by assumption)⟩
      | exact ⟨A3, n3, c3, A4, n4, c4, rfl, hw3, hw4.below hb3, (((ext_drewN w q).more hb1).more hb2).trans (by assumption)⟩)

end Go.Proofs.Ytdmijpechdaniaa
