/- More contracts over plain data: divisors, quotients, powers, roots, small numbers. -/
import Derived.Test.YtecjnnhkbmkemaaGreatDoorPAmW
import Derived.Test.YtecjnnhkbmkemaaGreatDoorPLSqrt
namespace Go.Proofs.YtecjnnhkbmkemaaGreatDoor
open Go.RowKit
theorem okz_i_GCD {a b : Int} (h1 : FitZ a) (h2 : FitZ b) {g : Nat} (hg : Nat.gcd a.natAbs b.natAbs = g) : CallOK Tryz.prog 79 [dZ a, dZ b] (.one (dZ g)) := by
  have := ok_i_GCD (na := decide (a < 0)) (nb := decide (b < 0)) (Wd_digs a.natAbs) (Wd_digs b.natAbs) h1 h2
  rw [val_digs, val_digs, hg] at this
  exact this
theorem okz_i_DivMod {a b q r : Int} (h1 : FitZ a) (h2 : FitZ b) (h0 : b ≠ 0) (hq : a.fdiv b = q) (hr : a.fmod b = r) : CallOK Tryz.prog 53 [dZ a, dZ b] (.tup [dZ q, dZ r, dN .i64 0]) :=
  ok_i_DivMod (Wd_digs _) (Wd_digs _) h1 h2 (by rw [toZ_int]; exact h0) (by rw [toZ_int, toZ_int]; exact hq) (by rw [toZ_int, toZ_int]; exact hr)
theorem okz_r1_GCD {a b : Int} (h1 : FitZ a) (h2 : FitZ b) {g : Nat} (hg : Nat.gcd a.natAbs b.natAbs = g) : CallOK Tryz.prog 62 [dZ a, dZ b] (.one (dZ g)) := by
  have := ok_r1_GCD (na := decide (a < 0)) (nb := decide (b < 0)) (Wd_digs a.natAbs) (Wd_digs b.natAbs) h1 h2
  rw [val_digs, val_digs, hg] at this
  exact this
theorem okz_r1_DivMod {a b q r : Int} (h1 : FitZ a) (h2 : FitZ b) (h0 : b ≠ 0) (hq : a.fdiv b = q) (hr : a.fmod b = r) : CallOK Tryz.prog 93 [dZ a, dZ b] (.tup [dZ q, dZ r, dN .i64 0]) :=
  ok_r1_DivMod (Wd_digs _) (Wd_digs _) h1 h2 (by rw [toZ_int]; exact h0) (by rw [toZ_int, toZ_int]; exact hq) (by rw [toZ_int, toZ_int]; exact hr)
theorem okz_i_Pow {a : Int} {k K : Nat} (hk : k ≤ 4096) (hK : K ≤ 2147483648) (hb : (max 1 a.natAbs) ^ k < 4294967296 ^ K) (h1 : FitZ a) {z : Int} (hz : a ^ k = z) : CallOK Tryz.prog 163 [dZ a, dN .i64 k] (.tup [dZ z, dN .i64 0]) :=
  ⟨enter_of Tryz.func163 rfl rfl, fun S w vs hS hv => by
    match vs, hv with
    | [v, u], ⟨h, h3, _⟩ =>
      obtain rfl := av_val h3
      have := i_Pow v _ _ k K w (intV_of_dZ h) hk hK (by rw [val_digs]; exact hb) h1
      rw [toZ_int, hz] at this
      exact this.mono fun e w' he => retA_E hS he⟩
theorem okz_i_Sqrt {a : Int} {r : Nat} (ha : 0 ≤ a) (hl : (digs a.natAbs).length ≤ 2147483) (h1 : r * r ≤ a.natAbs) (h2 : a.natAbs < (r + 1) * (r + 1)) : CallOK Tryz.prog 100 [dZ a] (.tup [dZ r, dN .i64 0]) := by
  obtain ⟨t, t1, t2, _, ht⟩ := iSqrt_pos (decide (a < 0)) (digs a.natAbs) hl (by rw [toZ_int]; exact ha)
  rw [val_digs] at t1 t2
  obtain rfl := isq_unique h1 h2 t1 t2
  exact ok1 (enter_of Tryz.func100 rfl rfl) (Wd_digs _) ht (fun _ _ _ _ hS h => retA_E hS h)
theorem okz_i_Int64 {a z : Int} {b : Bool} (h1 : FitZ a) (hz : fit64 a = (z, b)) : CallOK Tryz.prog 51 [dZ a] (.tup [dN .i64 z, dB b]) :=
  ok1 (enter_of Tryz.func51 rfl rfl) (Wd_digs _) (fun v w hv => by have := iInt64 v _ _ w hv h1; rw [toZ_int, hz] at this; exact this) (fun S w e w' hS h => by
    obtain ⟨rfl, hb⟩ := h
    refine ⟨_, rfl, ⟨[.int .i64 z, .bool b], rfl, rfl, fun i x u h1 h2 => ?_⟩, hb⟩
    match i with
    | 0 => simp at h1 h2; subst h1 h2; exact AV.M.val rfl
    | 1 => simp at h1 h2; subst h1 h2; exact AV.M.val rfl
    | i + 2 => simp at h1)
end Go.Proofs.YtecjnnhkbmkemaaGreatDoor
