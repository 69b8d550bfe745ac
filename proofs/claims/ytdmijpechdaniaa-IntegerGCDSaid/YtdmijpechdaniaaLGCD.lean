/- IntegerGCD answers true. -/
import Derived.Test.YtdmijpechdaniaaAmW
namespace Go.Proofs.Ytdmijpechdaniaa
open Go.ChangeShapes Go.WideShapes Go.ChangeAt Go.RowKit Go.Joins

theorem okz_i_GCD {a b : Int} (h1 : FitZ a) (h2 : FitZ b) {g : Nat} (hg : Nat.gcd a.natAbs b.natAbs = g) : CallOK Try.prog 30 [dZ a, dZ b] (.one (dZ g)) := by
  have := ok_i_GCD (na := decide (a < 0)) (nb := decide (b < 0)) (Wd_digs a.natAbs) (Wd_digs b.natAbs) h1 h2
  rw [val_digs, val_digs, hg] at this
  exact this
theorem okz_r1_GCD {a b : Int} (h1 : FitZ a) (h2 : FitZ b) {g : Nat} (hg : Nat.gcd a.natAbs b.natAbs = g) : CallOK Try.prog 31 [dZ a, dZ b] (.one (dZ g)) := by
  have := ok_r1_GCD (na := decide (a < 0)) (nb := decide (b < 0)) (Wd_digs a.natAbs) (Wd_digs b.natAbs) h1 h2
  rw [val_digs, val_digs, hg] at this
  exact this
theorem okz_i_DivMod {a b q r : Int} (h1 : FitZ a) (h2 : FitZ b) (h0 : b ≠ 0) (hq : a.fdiv b = q) (hr : a.fmod b = r) : CallOK Try.prog 17 [dZ a, dZ b] (.tup [dZ q, dZ r, dN .i64 0]) :=
  ok_i_DivMod (Wd_digs _) (Wd_digs _) h1 h2 (by rw [toZ_int]; exact h0) (by rw [toZ_int, toZ_int]; exact hq) (by rw [toZ_int, toZ_int]; exact hr)
theorem okz_lcp {a : Int} (h : FitZ a) : CallOK Try.prog 15 [dZ a] (.one (dZ a)) := ok_cp (Wd_digs _) (Nat.le_trans h (by decide))
theorem okz_is {a k : Int} (h1 : -9223372036854775808 ≤ k) (h2 : k < 9223372036854775808) (h : a = k) : CallOK Try.prog 32 [dZ a, dN .i64 k] (.one (dB true)) := ok_is (Wd_digs _) h1 h2 (by rw [sameB_int, decide_eq_true h])

set_option maxHeartbeats 1000000 in
theorem okl_IntegerGCD {na nb nc : Bool} {xs ys zs : List Nat} (hw : Wd xs) (hw' : Wd ys) (hw3 : Wd zs) : CallOK Try.prog 8 [dI na xs, dI nb ys, dI nc zs] (.one (dB true)) := by
  cases hs : ([(na, xs), (nb, ys), (nc, zs)].all fun p => decide (p.2.length ≤ 20))
  · refine callOK_of TT_ok mixT Try.func8 rfl rfl (Nat.le_of_ble_eq_true rfl) ?_
    repeat (first | refine r_op rfl rfl rfl rfl ?_ | refine r_skip rfl rfl rfl ?_ | refine .done ?_ | refine r_seq (T := TT) ?_ | refine r_region (T := TT) rfl ?_ | refine r_block (T := TT) ?_ | refine r_then (T := TT) rfl ?_ | refine r_else (T := TT) rfl ?_)
    refine r_call (ok_awake) rfl rfl rfl rfl rfl rfl ?_
    repeat (first | refine r_op rfl rfl rfl rfl ?_ | refine r_skip rfl rfl rfl ?_ | refine .done ?_ | refine r_seq (T := TT) ?_ | refine r_region (T := TT) rfl ?_ | refine r_block (T := TT) ?_ | refine r_then (T := TT) rfl ?_ | refine r_else (T := TT) rfl ?_)
    refine r_call (ok_small [(na, xs), (nb, ys), (nc, zs)] (by simp) hs) rfl rfl rfl rfl rfl rfl ?_
    repeat (first | refine r_op rfl rfl rfl rfl ?_ | refine r_skip rfl rfl rfl ?_ | refine .done ?_ | refine r_seq (T := TT) ?_ | refine r_region (T := TT) rfl ?_ | refine r_block (T := TT) ?_ | refine r_then (T := TT) rfl ?_ | refine r_else (T := TT) rfl ?_)
    refine r_call (ok_awake) rfl rfl rfl rfl rfl rfl ?_
    repeat (first | refine r_op rfl rfl rfl rfl ?_ | refine r_skip rfl rfl rfl ?_ | refine .done ?_ | refine r_seq (T := TT) ?_ | refine r_region (T := TT) rfl ?_ | refine r_block (T := TT) ?_ | refine r_then (T := TT) rfl ?_ | refine r_else (T := TT) rfl ?_)
    exact r_fin (T := TT) rfl rfl
  · have h123 : xs.length ≤ 20 ∧ ys.length ≤ 20 ∧ zs.length ≤ 20 := by simpa using hs
    obtain ⟨h1, h2, h3⟩ := h123
    have v1 := val_lt hw
    have v2 := val_lt hw'
    have v3 := val_lt hw3
    have p1 : (4294967296 : Nat) ^ xs.length ≤ 4294967296 ^ 20 := Nat.pow_le_pow_right (by decide) h1
    have p2 : (4294967296 : Nat) ^ ys.length ≤ 4294967296 ^ 20 := Nat.pow_le_pow_right (by decide) h2
    have p3 : (4294967296 : Nat) ^ zs.length ≤ 4294967296 ^ 20 := Nat.pow_le_pow_right (by decide) h3
    have e40 : (4294967296 : Nat) ^ 20 * 4294967296 ^ 20 = 4294967296 ^ 40 := by rw [← Nat.pow_add]
    obtain ⟨x, hx⟩ : ∃ x, toZ na xs * toZ nc zs = x := ⟨_, rfl⟩
    obtain ⟨y, hy⟩ : ∃ y, toZ nb ys * toZ nc zs = y := ⟨_, rfl⟩
    have bx : x.natAbs < 4294967296 ^ 40 := by
      rw [← hx, Int.natAbs_mul, natAbs_toZ, natAbs_toZ, ← e40]
      exact Nat.mul_lt_mul_of_lt_of_le (by omega) (by omega) (by omega)
    have bY : y.natAbs < 4294967296 ^ 40 := by
      rw [← hy, Int.natAbs_mul, natAbs_toZ, natAbs_toZ, ← e40]
      exact Nat.mul_lt_mul_of_lt_of_le (by omega) (by omega) (by omega)
    have fx : FitZ x := .of_lt (k := 40) bx (by decide)
    have fy : FitZ y := .of_lt (k := 40) bY (by decide)
    obtain ⟨G, hG⟩ : ∃ G, Nat.gcd x.natAbs y.natAbs = G := ⟨_, rfl⟩
    have f1 : Fit xs := by unfold Fit; omega
    have f2 : Fit ys := by unfold Fit; omega
    have f3 : Fit zs := by unfold Fit; omega
    rcases Nat.eq_zero_or_pos G with h0 | h0
    · subst h0
      obtain ⟨hx0, hy0⟩ := Nat.gcd_eq_zero_iff.1 hG
      have hx0 : x = 0 := by omega
      have hy0 : y = 0 := by omega
      subst hx0 hy0
      refine callOK_of TT_ok mixT Try.func8 rfl rfl (Nat.le_of_ble_eq_true rfl) ?_
      repeat (first | refine r_op rfl rfl rfl rfl ?_ | refine r_skip rfl rfl rfl ?_ | refine .done ?_ | refine r_seq (T := TT) ?_ | refine r_region (T := TT) rfl ?_ | refine r_block (T := TT) ?_ | refine r_then (T := TT) rfl ?_ | refine r_else (T := TT) rfl ?_)
      refine r_call (ok_awake) rfl rfl rfl rfl rfl rfl ?_
      repeat (first | refine r_op rfl rfl rfl rfl ?_ | refine r_skip rfl rfl rfl ?_ | refine .done ?_ | refine r_seq (T := TT) ?_ | refine r_region (T := TT) rfl ?_ | refine r_block (T := TT) ?_ | refine r_then (T := TT) rfl ?_ | refine r_else (T := TT) rfl ?_)
      refine r_call (ok_small [(na, xs), (nb, ys), (nc, zs)] (by simp) hs) rfl rfl rfl rfl rfl rfl ?_
      repeat (first | refine r_op rfl rfl rfl rfl ?_ | refine r_skip rfl rfl rfl ?_ | refine .done ?_ | refine r_seq (T := TT) ?_ | refine r_region (T := TT) rfl ?_ | refine r_block (T := TT) ?_ | refine r_then (T := TT) rfl ?_ | refine r_else (T := TT) rfl ?_)
      refine r_call (ok_r1_Mul (na := na) hw hw3 f1 f3 hx) rfl rfl rfl rfl rfl rfl ?_
      repeat (first | refine r_op rfl rfl rfl rfl ?_ | refine r_skip rfl rfl rfl ?_ | refine .done ?_ | refine r_seq (T := TT) ?_ | refine r_region (T := TT) rfl ?_ | refine r_block (T := TT) ?_ | refine r_then (T := TT) rfl ?_ | refine r_else (T := TT) rfl ?_)
      refine r_call (ok_r1_Mul (na := nb) hw' hw3 f2 f3 hy) rfl rfl rfl rfl rfl rfl ?_
      repeat (first | refine r_op rfl rfl rfl rfl ?_ | refine r_skip rfl rfl rfl ?_ | refine .done ?_ | refine r_seq (T := TT) ?_ | refine r_region (T := TT) rfl ?_ | refine r_block (T := TT) ?_ | refine r_then (T := TT) rfl ?_ | refine r_else (T := TT) rfl ?_)
      refine r_call (okz_lcp fx) rfl rfl rfl rfl rfl rfl ?_
      repeat (first | refine r_op rfl rfl rfl rfl ?_ | refine r_skip rfl rfl rfl ?_ | refine .done ?_ | refine r_seq (T := TT) ?_ | refine r_region (T := TT) rfl ?_ | refine r_block (T := TT) ?_ | refine r_then (T := TT) rfl ?_ | refine r_else (T := TT) rfl ?_)
      refine r_call (okz_lcp fy) rfl rfl rfl rfl rfl rfl ?_
      repeat (first | refine r_op rfl rfl rfl rfl ?_ | refine r_skip rfl rfl rfl ?_ | refine .done ?_ | refine r_seq (T := TT) ?_ | refine r_region (T := TT) rfl ?_ | refine r_block (T := TT) ?_ | refine r_then (T := TT) rfl ?_ | refine r_else (T := TT) rfl ?_)
      refine r_call (okz_i_GCD fx fy hG) rfl rfl rfl rfl rfl rfl ?_
      repeat (first | refine r_op rfl rfl rfl rfl ?_ | refine r_skip rfl rfl rfl ?_ | refine .done ?_ | refine r_seq (T := TT) ?_ | refine r_region (T := TT) rfl ?_ | refine r_block (T := TT) ?_ | refine r_then (T := TT) rfl ?_ | refine r_else (T := TT) rfl ?_)
      refine r_call (okz_r1_GCD fx fy hG) rfl rfl rfl rfl rfl rfl ?_
      repeat (first | refine r_op rfl rfl rfl rfl ?_ | refine r_skip rfl rfl rfl ?_ | refine .done ?_ | refine r_seq (T := TT) ?_ | refine r_region (T := TT) rfl ?_ | refine r_block (T := TT) ?_ | refine r_then (T := TT) rfl ?_ | refine r_else (T := TT) rfl ?_)
      refine r_call (okz_lsame rfl) rfl rfl rfl rfl rfl rfl ?_
      repeat (first | refine r_op rfl rfl rfl rfl ?_ | refine r_skip rfl rfl rfl ?_ | refine .done ?_ | refine r_seq (T := TT) ?_ | refine r_region (T := TT) rfl ?_ | refine r_block (T := TT) ?_ | refine r_then (T := TT) rfl ?_ | refine r_else (T := TT) rfl ?_)
      refine r_call (okz_r1_Sign 0) rfl rfl rfl rfl rfl rfl ?_
      repeat (first | refine r_op rfl rfl rfl rfl ?_ | refine r_skip rfl rfl rfl ?_ | refine .done ?_ | refine r_seq (T := TT) ?_ | refine r_region (T := TT) rfl ?_ | refine r_block (T := TT) ?_ | refine r_then (T := TT) rfl ?_ | refine r_else (T := TT) rfl ?_)
      refine r_call (okz_r1_Sign 0) rfl rfl rfl rfl rfl rfl ?_
      repeat (first | refine r_op rfl rfl rfl rfl ?_ | refine r_skip rfl rfl rfl ?_ | refine .done ?_ | refine r_seq (T := TT) ?_ | refine r_region (T := TT) rfl ?_ | refine r_block (T := TT) ?_ | refine r_then (T := TT) rfl ?_ | refine r_else (T := TT) rfl ?_)
      refine r_call (okz_r1_Sign 0) rfl rfl rfl rfl rfl rfl ?_
      repeat (first | refine r_op rfl rfl rfl rfl ?_ | refine r_skip rfl rfl rfl ?_ | refine .done ?_ | refine r_seq (T := TT) ?_ | refine r_region (T := TT) rfl ?_ | refine r_block (T := TT) ?_ | refine r_then (T := TT) rfl ?_ | refine r_else (T := TT) rfl ?_)
      exact r_fin (T := TT) rfl rfl
    · obtain ⟨p, hp⟩ : (G : Int) ∣ x := Int.ofNat_dvd_left.2 (by rw [← hG]; exact Nat.gcd_dvd_left _ _)
      obtain ⟨q, hq⟩ : (G : Int) ∣ y := Int.ofNat_dvd_left.2 (by rw [← hG]; exact Nat.gcd_dvd_right _ _)
      have hG0 : (G : Int) ≠ 0 := by omega
      have hpq : Nat.gcd p.natAbs q.natAbs = 1 := by
        have := hG
        rw [hp, hq, Int.natAbs_mul, Int.natAbs_mul, Int.natAbs_natCast, Nat.gcd_mul_left] at this
        exact Nat.eq_of_mul_eq_mul_left h0 (by omega)
      have hpl : p.natAbs ≤ x.natAbs := by rw [hp, Int.natAbs_mul]; exact Nat.le_mul_of_pos_left _ (by omega)
      have hql : q.natAbs ≤ y.natAbs := by rw [hq, Int.natAbs_mul]; exact Nat.le_mul_of_pos_left _ (by omega)
      have fp : FitZ p := .of_lt (k := 40) (by omega) (by decide)
      have fq : FitZ q := .of_lt (k := 40) (by omega) (by decide)
      have fG : FitZ G := by
        rcases Nat.eq_zero_or_pos x.natAbs with hz | hz
        · have : G = y.natAbs := by rw [← hG, hz, Nat.gcd_zero_left]
          exact .of_lt (k := 40) (by omega) (by decide)
        · have := Nat.gcd_le_left y.natAbs hz
          exact .of_lt (k := 40) (by omega) (by decide)
      have sG : (G : Int).sign = 1 := Int.sign_eq_one_of_pos (by omega)
      have c1 : CallOK Try.prog 24 [dZ G] (.one (dN .i64 1)) := by have := okz_r1_Sign (G : Int); rwa [sG] at this
      refine callOK_of TT_ok mixT Try.func8 rfl rfl (Nat.le_of_ble_eq_true rfl) ?_
      repeat (first | refine r_op rfl rfl rfl rfl ?_ | refine r_skip rfl rfl rfl ?_ | refine .done ?_ | refine r_seq (T := TT) ?_ | refine r_region (T := TT) rfl ?_ | refine r_block (T := TT) ?_ | refine r_then (T := TT) rfl ?_ | refine r_else (T := TT) rfl ?_)
      refine r_call (ok_awake) rfl rfl rfl rfl rfl rfl ?_
      repeat (first | refine r_op rfl rfl rfl rfl ?_ | refine r_skip rfl rfl rfl ?_ | refine .done ?_ | refine r_seq (T := TT) ?_ | refine r_region (T := TT) rfl ?_ | refine r_block (T := TT) ?_ | refine r_then (T := TT) rfl ?_ | refine r_else (T := TT) rfl ?_)
      refine r_call (ok_small [(na, xs), (nb, ys), (nc, zs)] (by simp) hs) rfl rfl rfl rfl rfl rfl ?_
      repeat (first | refine r_op rfl rfl rfl rfl ?_ | refine r_skip rfl rfl rfl ?_ | refine .done ?_ | refine r_seq (T := TT) ?_ | refine r_region (T := TT) rfl ?_ | refine r_block (T := TT) ?_ | refine r_then (T := TT) rfl ?_ | refine r_else (T := TT) rfl ?_)
      refine r_call (ok_r1_Mul (na := na) hw hw3 f1 f3 hx) rfl rfl rfl rfl rfl rfl ?_
      repeat (first | refine r_op rfl rfl rfl rfl ?_ | refine r_skip rfl rfl rfl ?_ | refine .done ?_ | refine r_seq (T := TT) ?_ | refine r_region (T := TT) rfl ?_ | refine r_block (T := TT) ?_ | refine r_then (T := TT) rfl ?_ | refine r_else (T := TT) rfl ?_)
      refine r_call (ok_r1_Mul (na := nb) hw' hw3 f2 f3 hy) rfl rfl rfl rfl rfl rfl ?_
      repeat (first | refine r_op rfl rfl rfl rfl ?_ | refine r_skip rfl rfl rfl ?_ | refine .done ?_ | refine r_seq (T := TT) ?_ | refine r_region (T := TT) rfl ?_ | refine r_block (T := TT) ?_ | refine r_then (T := TT) rfl ?_ | refine r_else (T := TT) rfl ?_)
      refine r_call (okz_lcp fx) rfl rfl rfl rfl rfl rfl ?_
      repeat (first | refine r_op rfl rfl rfl rfl ?_ | refine r_skip rfl rfl rfl ?_ | refine .done ?_ | refine r_seq (T := TT) ?_ | refine r_region (T := TT) rfl ?_ | refine r_block (T := TT) ?_ | refine r_then (T := TT) rfl ?_ | refine r_else (T := TT) rfl ?_)
      refine r_call (okz_lcp fy) rfl rfl rfl rfl rfl rfl ?_
      repeat (first | refine r_op rfl rfl rfl rfl ?_ | refine r_skip rfl rfl rfl ?_ | refine .done ?_ | refine r_seq (T := TT) ?_ | refine r_region (T := TT) rfl ?_ | refine r_block (T := TT) ?_ | refine r_then (T := TT) rfl ?_ | refine r_else (T := TT) rfl ?_)
      refine r_call (okz_i_GCD fx fy hG) rfl rfl rfl rfl rfl rfl ?_
      repeat (first | refine r_op rfl rfl rfl rfl ?_ | refine r_skip rfl rfl rfl ?_ | refine .done ?_ | refine r_seq (T := TT) ?_ | refine r_region (T := TT) rfl ?_ | refine r_block (T := TT) ?_ | refine r_then (T := TT) rfl ?_ | refine r_else (T := TT) rfl ?_)
      refine r_call (okz_r1_GCD fx fy hG) rfl rfl rfl rfl rfl rfl ?_
      repeat (first | refine r_op rfl rfl rfl rfl ?_ | refine r_skip rfl rfl rfl ?_ | refine .done ?_ | refine r_seq (T := TT) ?_ | refine r_region (T := TT) rfl ?_ | refine r_block (T := TT) ?_ | refine r_then (T := TT) rfl ?_ | refine r_else (T := TT) rfl ?_)
      refine r_call (okz_lsame rfl) rfl rfl rfl rfl rfl rfl ?_
      repeat (first | refine r_op rfl rfl rfl rfl ?_ | refine r_skip rfl rfl rfl ?_ | refine .done ?_ | refine r_seq (T := TT) ?_ | refine r_region (T := TT) rfl ?_ | refine r_block (T := TT) ?_ | refine r_then (T := TT) rfl ?_ | refine r_else (T := TT) rfl ?_)
      refine r_call (c1) rfl rfl rfl rfl rfl rfl ?_
      repeat (first | refine r_op rfl rfl rfl rfl ?_ | refine r_skip rfl rfl rfl ?_ | refine .done ?_ | refine r_seq (T := TT) ?_ | refine r_region (T := TT) rfl ?_ | refine r_block (T := TT) ?_ | refine r_then (T := TT) rfl ?_ | refine r_else (T := TT) rfl ?_)
      refine r_call (okz_i_DivMod (q := p) (r := 0) fx fG hG0 (by rw [hp]; exact Int.mul_fdiv_cancel_left _ hG0) (by rw [hp]; exact Int.mul_fmod_right _ _)) rfl rfl rfl rfl rfl rfl ?_
      repeat (first | refine r_op rfl rfl rfl rfl ?_ | refine r_skip rfl rfl rfl ?_ | refine .done ?_ | refine r_seq (T := TT) ?_ | refine r_region (T := TT) rfl ?_ | refine r_block (T := TT) ?_ | refine r_then (T := TT) rfl ?_ | refine r_else (T := TT) rfl ?_)
      refine r_call (okz_i_DivMod (q := q) (r := 0) fy fG hG0 (by rw [hq]; exact Int.mul_fdiv_cancel_left _ hG0) (by rw [hq]; exact Int.mul_fmod_right _ _)) rfl rfl rfl rfl rfl rfl ?_
      repeat (first | refine r_op rfl rfl rfl rfl ?_ | refine r_skip rfl rfl rfl ?_ | refine .done ?_ | refine r_seq (T := TT) ?_ | refine r_region (T := TT) rfl ?_ | refine r_block (T := TT) ?_ | refine r_then (T := TT) rfl ?_ | refine r_else (T := TT) rfl ?_)
      refine r_call (okz_r1_Sign 0) rfl rfl rfl rfl rfl rfl ?_
      repeat (first | refine r_op rfl rfl rfl rfl ?_ | refine r_skip rfl rfl rfl ?_ | refine .done ?_ | refine r_seq (T := TT) ?_ | refine r_region (T := TT) rfl ?_ | refine r_block (T := TT) ?_ | refine r_then (T := TT) rfl ?_ | refine r_else (T := TT) rfl ?_)
      refine r_call (okz_r1_Sign 0) rfl rfl rfl rfl rfl rfl ?_
      repeat (first | refine r_op rfl rfl rfl rfl ?_ | refine r_skip rfl rfl rfl ?_ | refine .done ?_ | refine r_seq (T := TT) ?_ | refine r_region (T := TT) rfl ?_ | refine r_block (T := TT) ?_ | refine r_then (T := TT) rfl ?_ | refine r_else (T := TT) rfl ?_)
      refine r_call (okz_i_GCD fp fq hpq) rfl rfl rfl rfl rfl rfl ?_
      repeat (first | refine r_op rfl rfl rfl rfl ?_ | refine r_skip rfl rfl rfl ?_ | refine .done ?_ | refine r_seq (T := TT) ?_ | refine r_region (T := TT) rfl ?_ | refine r_block (T := TT) ?_ | refine r_then (T := TT) rfl ?_ | refine r_else (T := TT) rfl ?_)
      refine r_call (okz_is (by decide) (by decide) rfl) rfl rfl rfl rfl rfl rfl ?_
      repeat (first | refine r_op rfl rfl rfl rfl ?_ | refine r_skip rfl rfl rfl ?_ | refine .done ?_ | refine r_seq (T := TT) ?_ | refine r_region (T := TT) rfl ?_ | refine r_block (T := TT) ?_ | refine r_then (T := TT) rfl ?_ | refine r_else (T := TT) rfl ?_)
      exact r_fin (T := TT) rfl rfl

set_option maxRecDepth 100000 in
theorem integerGCD_lifted (os : Os) (started : os.Started) (H : Type) (enc : TypeId × Value → H) :
    ReturnsInHanded {} Try.checked os 8 .any (Rows.integerGCDSpec.pre6 enc Try.prog Try.f8 Rows.integerGCDRow.domain false) (Rows.integerGCDSpec.post enc Try.prog Try.f8 false true false false) := by
  refine returnsInHanded_of_change (C := Try.checked) Try.own started (by kernel_rfl) Try.func8
    (ChangeSpec.witness6 (enc := enc) (C := Try.checked) false ⟨#[], #[.agg #[.bool false, .slice none 0 0], .agg #[.bool false, .slice none 0 0], .agg #[.bool false, .slice none 0 0]], []⟩ 8 (by kernel_rfl) (by kernel_rfl) (by kernel_rfl) (by kernel_rfl)) ?_
  intro W base args ds gs before hval0 hW _ _
  have hval : ∀ (j : Nat) t v, Try.f8.params[j]? = some t → args[j]? = some v → Value.okWide Try.prog W .any base t v := hval0
  have hW' := hW
  obtain ⟨p, q, hA0, hV, rfl, hfz, hnd⟩ := hW
  have hA : DataW.TrodAll enc Try.prog W 0 (fun _ => true) true Try.f8.params.toList args.toList ds p := hA0
  rw [Try.params8] at hA hval
  obtain ⟨v0, v1, v2, d0, d1, d2, p0, p1, p2, rfl, rfl, rfl, h0, h1, h2⟩ := trodAll_three hA
  obtain ⟨n0, x0, a0⟩ := open_intR (hval 0 24 v0 rfl rfl) h0
  obtain ⟨n1, x1, a1⟩ := open_intR (hval 1 24 v1 rfl rfl) h1
  obtain ⟨n2, x2, a2⟩ := open_intR (hval 2 24 v2 rfl rfl) h2
  refine (law_calls (okl_IntegerGCD (intR_wd a0) (intR_wd a1) (intR_wd a2)) (vs := [v0, v1, v2]) ⟨dI_of (noS W) a0, dI_of (noS W) a1, dI_of (noS W) a2, trivial⟩).mono fun e W' ⟨he, hB⟩ => ?_
  subst he
  exact ⟨_, rfl, law_post hW' rfl (by kernel_rfl) (by kernel_rfl) (fun ds hl => by
    match ds, hl with
    | [_, _, _], _ => rfl) hB⟩

/-- **the given statement** -/
theorem integerGCD_holds : Rows.IntegerGCDSaid :=
  OpenClaim.holds_of_wide 8 Try.f8 rfl rfl rfl rfl rfl rfl rfl ⟨rfl, rfl, rfl, rfl, rfl⟩ rfl rfl rfl rfl rfl (by kernel_rfl) Try.func8 (by kernel_rfl)
    (of_decide_eq_true (by kernel_rfl)) (by unfold Func.isWrapper; rw [if_neg (of_decide_eq_false (by kernel_rfl))]; exact ⟨rfl, rfl⟩)
    (fun os started H enc _ => integerGCD_lifted os started H enc)

end Go.Proofs.Ytdmijpechdaniaa
