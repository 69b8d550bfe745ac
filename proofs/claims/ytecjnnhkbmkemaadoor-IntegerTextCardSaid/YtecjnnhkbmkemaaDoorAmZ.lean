/- More contracts over plain data: divisors, quotients, powers, roots, small numbers. -/
import Derived.Test.YtecjnnhkbmkemaaDoorAmW
import Derived.Test.YtecjnnhkbmkemaaDoorLSqrt
namespace Go.Proofs.YtecjnnhkbmkemaaDoor
open Go.RowKit

theorem okz_i_DivMod {a b q r : Int} (h1 : FitZ a) (h2 : FitZ b) (h0 : b ≠ 0) (hq : a.fdiv b = q) (hr : a.fmod b = r) : CallOK Tryd.prog 14 [dZ a, dZ b] (.tup [dZ q, dZ r, dN .i64 0]) :=
  ok_i_DivMod (Wd_digs _) (Wd_digs _) h1 h2 (by rw [toZ_int]; exact h0) (by rw [toZ_int, toZ_int]; exact hq) (by rw [toZ_int, toZ_int]; exact hr)

theorem retA_E' {z n : Int} {S : Nat → Prop} {w w' : World} {e : Ending} (h : NoWord S w) (hr : RetE z n w e w') : RetA S (.tup [dZ z, dN .i64 n]) w e w' := retA_E h hr
theorem okz_i_Pow {a : Int} {k K : Nat} (hk : k ≤ 4096) (hK : K ≤ 2147483648) (hb : (max 1 a.natAbs) ^ k < 4294967296 ^ K) (h1 : FitZ a) {z : Int} (hz : a ^ k = z) : CallOK Tryd.prog 12 [dZ a, dN .i64 k] (.tup [dZ z, dN .i64 0]) :=
  ⟨enter_of Tryd.func12 rfl rfl, fun S w vs hS hv => by
    match vs, hv with
    | [v, u], ⟨h, h3, _⟩ =>
      obtain rfl := av_val h3
      have := i_Pow v _ _ k K w (intV_of_dZ h) hk hK (by rw [val_digs]; exact hb) h1
      rw [toZ_int, hz] at this
      exact this.mono fun e w' he => retA_E hS he⟩
theorem okz_i_Sqrt {a : Int} {r : Nat} (ha : 0 ≤ a) (hl : (digs a.natAbs).length ≤ 2147483) (h1 : r * r ≤ a.natAbs) (h2 : a.natAbs < (r + 1) * (r + 1)) : CallOK Tryd.prog 15 [dZ a] (.tup [dZ r, dN .i64 0]) := by
  obtain ⟨t, t1, t2, _, ht⟩ := iSqrt_pos (decide (a < 0)) (digs a.natAbs) hl (by rw [toZ_int]; exact ha)
  rw [val_digs] at t1 t2
  obtain rfl := isq_unique h1 h2 t1 t2
  exact ok1 (enter_of Tryd.func15 rfl rfl) (Wd_digs _) ht (fun _ _ _ _ hS h => retA_E hS h)
theorem okz_i_SqrtN {a : Int} (h : a < 0) : CallOK Tryd.prog 15 [dZ a] (.tup [dZ 0, dN .i64 7]) :=
  ok1 (enter_of Tryd.func15 rfl rfl) (Wd_digs _) (fun v w hv => i_Sqrt_n _ _ (by rw [toZ_int]; exact h) v w hv) (fun _ _ _ _ hS h => retA_E hS h)
end Go.Proofs.YtecjnnhkbmkemaaDoor
