/- Sign, Bits and shifted of the program. -/
import Derived.Test.YtdmijpechdaniaaBack
import Derived.Test.YtdmijpechdaniaaShelf
namespace Go.Proofs.Ytdmijpechdaniaa
open Go.RowKit

/-- what a function that returns a number gives -/
def RetN (z : Int) (w : World) (e : Ending) (w' : World) : Prop := e = .returned (.int .i64 z) ∧ Below w.heap.size w w'
def sgn (neg : Bool) (xs : List Nat) : Int := if val xs = 0 then 0 else if neg then -1 else 1
theorem sgn_sign (neg : Bool) (xs : List Nat) : sgn neg xs = (toZ neg xs).sign := by
  unfold sgn toZ
  cases neg
  · by_cases h : val xs = 0
    · simp [h]
    · simp only [h, if_false]; exact (Int.sign_eq_one_of_pos (by simp; omega)).symm
  · by_cases h : val xs = 0
    · simp [h]
    · simp only [h, if_false, if_true]; exact (Int.sign_eq_neg_one_of_neg (by omega)).symm

set_option maxHeartbeats 400000 in
theorem i_Sign (va : Value) (na : Bool) (xs : List Nat) (w : World) (ha : IntR w va na xs) :
    Calls Try.prog 37 #[va] w (RetN (sgn na xs) w) := by
  obtain ⟨A, n, c, rfl, hx⟩ := ha
  have hb : Below w.heap.size w (w.alloc (.cells #[.bool na, .slice A n c] 24)) := (Below.refl _ _).alloc (Nat.le_refl _) _
  have Hx := Lib.hid (hx.below hb)
  have Hb := Lib.hid hb
  have hz0 : (trim xs).length = 0 → val xs = 0 := fun e => by rw [← val_trim xs, List.eq_nil_of_length_eq_zero e]; rfl
  have hz1 : (trim xs).length ≠ 0 → val xs ≠ 0 := fun e e0 => e (by unfold trim; rw [e0, digs_zero]; rfl)
  have Hz0 := Lib.hid hz0
  have Hz1 := Lib.hid hz1
  clear hx hb hz0 hz1
  obtain ⟨m, hm⟩ : ∃ m, m = (trim xs).length := ⟨_, rfl⟩
  rw [← hm] at Hz0 Hz1
  have Hm := Lib.hid hm
  clear hm
  by_cases h0 : m = 0
  · have hr : sgn na xs = 0 := by unfold sgn; rw [if_pos (Hz0.out h0)]
    have Hr := Lib.hid hr
    clear hr
    subst h0
    go_enter Try.func37, Try.ntmps37
    go_wp2_with (go_at_call 50; (with_reducible refine (i_trim A n c xs _ Hx.out).mono ?_); rw [← Hm.out]; rintro e w' ⟨rfl, rfl⟩)
    go_ret
    exact ⟨by rw [Hr.out]; rfl, Hb.out⟩
  · have h0' : ((m : Int) == 0) = false := by simp; omega
    cases na
    · have hr : sgn false xs = 1 := by unfold sgn; rw [if_neg (Hz1.out h0)]; rfl
      have Hr := Lib.hid hr
      clear hr
      go_enter Try.func37, Try.ntmps37
      go_wp2_with (go_at_call 50; (with_reducible refine (i_trim A n c xs _ Hx.out).mono ?_); rw [← Hm.out]; rintro e w' ⟨rfl, rfl⟩)
      go_ret
      exact ⟨by rw [Hr.out]; rfl, Hb.out⟩
    · have hr : sgn true xs = -1 := by unfold sgn; rw [if_neg (Hz1.out h0)]; rfl
      have Hr := Lib.hid hr
      clear hr
      go_enter Try.func37, Try.ntmps37
      go_wp2_with (go_at_call 50; (with_reducible refine (i_trim A n c xs _ Hx.out).mono ?_); rw [← Hm.out]; rintro e w' ⟨rfl, rfl⟩)
      go_ret
      exact ⟨by rw [Hr.out]; rfl, Hb.out⟩

theorem bits_top {zs : List Nat} (hw : Wd zs) (hz : Nz zs) (k : Nat) (hl : zs.length = k + 1) : zs.getD k 0 ≠ 0 ∧ bitLen (val zs) = 32 * k + bitLen (zs.getD k 0) := by
  have hd := drop_step zs (k + 1) (Nat.succ_pos k) (by omega)
  rw [Nat.add_sub_cancel, show zs.drop (k + 1) = [] from List.drop_of_length_le (by omega)] at hd
  have ht : zs = zs.take k ++ [zs.getD k 0] := by rw [← hd, List.take_append_drop]
  have h0 : zs.getD k 0 ≠ 0 := by
    intro h
    rw [h] at ht
    exact hz (by rw [ht, List.getLast?_concat])
  generalize zs.getD k 0 = x at *
  have hv : val zs = val (zs.take k) + 4294967296 ^ k * x := by
    conv => lhs; rw [ht]
    rw [val_append, List.length_take, Nat.min_eq_left (by omega)]; simp only [val]; rw [Nat.mul_zero, Nat.add_zero]
  have hlt := val_take_lt hw k
  have hp : (4294967296 : Nat) ^ k = 2 ^ (32 * k) := by rw [Nat.pow_mul, show (2 : Nat) ^ 32 = 4294967296 by decide]
  have hdv : val zs / 2 ^ (32 * k) = x := by
    rw [hv, ← hp, Nat.add_mul_div_left _ _ (Nat.pow_pos (by omega)), Nat.div_eq_of_lt hlt, Nat.zero_add]
  exact ⟨h0, by rw [bitLen_shift (val zs) (32 * k) (by rw [hdv]; exact h0), hdv]⟩
theorem bitLen_le32 (x : Nat) (h : x < 4294967296) : bitLen x ≤ 32 := by
  unfold bitLen
  split
  · omega
  · rename_i h0
    have := (Nat.log2_lt h0).2 (show x < 2 ^ 32 by rw [show (2 : Nat) ^ 32 = 4294967296 by decide]; exact h)
    omega
theorem bitLenAux_eq (f n : Nat) (h : n < 2 ^ f) : Lib.bitLenAux f n = bitLen n := by
  induction f generalizing n with
  | zero => have : n = 0 := by omega
            subst this; rfl
  | succ f ih =>
    unfold Lib.bitLenAux
    by_cases h0 : n = 0
    · subst h0; rfl
    · rw [if_neg h0, ih _ (by rw [Nat.pow_succ] at h; omega)]
      by_cases h1 : n / 2 = 0
      · have : n = 1 := by omega
        subst this; decide
      · exact (bitLen_shift n 1 h1).symm
theorem wrap64_fit {z : Int} (h : -9223372036854775808 ≤ z ∧ z ≤ 9223372036854775807) : wrap64 z = z := by unfold wrap64; omega
theorem lib_bitLen (n : Nat) (h : n < 4294967296) : Lib.bitLen n = bitLen n := bitLenAux_eq 64 n (Nat.lt_of_lt_of_le h (by decide))

set_option maxHeartbeats 400000 in
theorem i_Bits (va : Value) (na : Bool) (xs : List Nat) (w : World) (ha : IntR w va na xs) (hs : xs.length ≤ 2147483648) :
    Calls Try.prog 38 #[va] w (RetN (bitLen (val xs)) w) := by
  obtain ⟨A, n, c, rfl, hx⟩ := ha
  have hb : Below w.heap.size w (w.alloc (.cells #[.bool na, .slice A n c] 24)) := (Below.refl _ _).alloc (Nat.le_refl _) _
  have Hx := Lib.hid (hx.below hb)
  have Hb := Lib.hid hb
  have Ht := Lib.hid (hx.trim.below hb)
  have hz0 : (trim xs).length = 0 → val xs = 0 := fun e => by rw [← val_trim xs, List.eq_nil_of_length_eq_zero e]; rfl
  have Hz0 := Lib.hid hz0
  have hl1 := trim_len hx.wd hs
  clear hx hb hz0
  obtain ⟨m, hm⟩ : ∃ m, m = (trim xs).length := ⟨_, rfl⟩
  rw [← hm] at Hz0 Ht hl1
  have Hm := Lib.hid hm
  clear hm
  by_cases h0 : m = 0
  · have hr : bitLen (val xs) = 0 := by rw [Hz0.out h0]; rfl
    have Hr := Lib.hid hr
    clear hr
    subst h0
    go_enter Try.func38, Try.ntmps38
    go_wp2_with (go_at_call 50; (with_reducible refine (i_trim A n c xs _ Hx.out).mono ?_); rw [← Hm.out]; rintro e w' ⟨rfl, rfl⟩)
    go_ret
    exact ⟨by rw [Hr.out]; rfl, Hb.out⟩
  · have h0' : ((m : Int) == 0) = false := by simp; omega
    obtain ⟨b1, o1, rfl, _, hc1⟩ := Ht.out.at (by omega)
    have hc1 := hc1 (m - 1) (by omega)
    have hx1 := Ht.out.wd.getD (m - 1)
    generalize hxx : (trim xs).getD (m - 1) 0 = x at hc1 hx1
    have Hxx := Lib.hid hxx
    clear hxx
    have g1 : (0 : Int) ≤ (m : Int) - 1 := by omega
    have g2 : (m : Int) - 1 < m := by omega
    go_enter Try.func38, Try.ntmps38
    go_wp2_with (first | (go_at_call 50; (with_reducible refine (i_trim _ n c xs _ Hx.out).mono ?_); rw [← Hm.out]; rintro e w' ⟨rfl, rfl⟩) | (go_at_call 72; (with_reducible refine (Try.bits_Len32 _ _ (by omega) (by omega)).mono ?_); rintro e w' ⟨rfl, rfl⟩))
    go_ret
    obtain ⟨k, rfl⟩ : ∃ k, m = k + 1 := ⟨m - 1, by omega⟩
    have hb := bits_top (Wd_trim xs) (Nz_digs _) k Hm.out.symm
    rw [val_trim] at hb
    rw [Nat.add_sub_cancel] at Hxx
    rw [Hxx.out] at hb
    have hb32 := bitLen_le32 x hx1
    refine ⟨?_, Hb.out⟩
    rw [hb.2]
    simp only [lib_bitLen x hx1]
    show Ending.returned (.int .i64 (wrap64 (32 * (((k + 1 : Nat) : Int) - 1) + (bitLen x : Int)))) = _
    rw [wrap64_fit (by omega)]
    congr 2
    omega

theorem zeros_set (k x : Nat) : (zeros (k + 1)).set k x = zeros k ++ [x] := by
  unfold zeros
  rw [List.replicate_succ', List.set_append_right _ _ (by simp)]
  simp
theorem val_zeros_snoc (k x : Nat) : val (zeros k ++ [x]) = 4294967296 ^ k * x := by
  rw [val_append, zeros_length]; unfold zeros; rw [val_replicate]; simp only [val]; rw [Nat.mul_zero, Nat.add_zero, Nat.zero_add]
theorem pow_split (n : Nat) : 4294967296 ^ (n / 32) * 2 ^ (n % 32) = 2 ^ n := by
  rw [show (4294967296 : Nat) = 2 ^ 32 by decide, ← Nat.pow_mul, ← Nat.pow_add, Nat.div_add_mod]

set_option maxHeartbeats 400000 in
theorem i_shifted (n : Nat) (w : World) (hn : n ≤ 4294967296) :
    Calls Try.prog 61 #[.int .i64 n] w (RetW (fun zs => val zs = 2 ^ n ∧ zs.length = n / 32 + 1 ∧ Nz zs) w) := by
  have hmk := mk_u32 (n / 32 + 1) ((n : Int) / 32 + 1) (by omega) (by omega)
  have hrow := row_obj w (zeros (n / 32 + 1))
  have hcell := hrow.cell (n / 32) (by rw [zeros_length]; omega)
  have hfr := hrow.frozen (n / 32)
  have hp : 2 ^ (n % 32) < 4294967296 := Nat.lt_of_lt_of_le (Nat.pow_lt_pow_right (by omega) (show n % 32 < 32 by omega)) (by decide)
  have hpp : 0 < 2 ^ (n % 32) := Nat.two_pow_pos _
  have hrow2 := hrow.set (n / 32) (2 ^ (n % 32))
  have hb2 : Below w.heap.size w ((w.alloc (rowObj (zeros (n / 32 + 1)))).setCell ⟨w.heap.size, n / 32, none⟩ (W32 (2 ^ (n % 32)))) := ((Below.refl _ _).alloc (Nat.le_refl _) _).setCell (Nat.le_refl _) _
  have hws : Wd ((zeros (n / 32 + 1)).set (n / 32) (2 ^ (n % 32))) := Wd_set (Wd_zeros _) _ _ hp
  have Hw2 := Lib.hid (hrow2.wrd' hws (n := n / 32 + 1) (by rw [List.length_set, zeros_length]) (by omega))
  have Hb2 := Lib.hid hb2
  have Hp := Lib.hid (And.intro hp hpp)
  clear hrow hrow2 hb2 hws
  go_enter Try.func61, Try.ntmps61
  go_wp2
  go_ret
  have e : ((2 : Int) ^ (n % 32) % 4294967296) = ((2 ^ (n % 32) : Nat) : Int) := by
    have e2 : (2 : Int) ^ (n % 32) = ((2 ^ (n % 32) : Nat) : Int) := by rw [Int.natCast_pow]; rfl
    have h := Hp.out.1
    rw [e2]
    clear e2
    generalize 2 ^ (n % 32) = y at *
    omega
  rw [e]
  refine ⟨_, _, _, _, rfl, Hw2.out, ⟨?_, by rw [List.length_set, zeros_length], ?_⟩, Hb2.out⟩
  · rw [zeros_set, val_zeros_snoc, pow_split]
  · rw [zeros_set]; unfold Nz; rw [List.getLast?_concat]; intro h; injection h; omega

end Go.Proofs.Ytdmijpechdaniaa
