/- The contracts of the integer functions over plain data. -/
import Derived.Test.YtecjnnhkbmkemaaGreatDoorPAmI
import Derived.Test.YtecjnnhkbmkemaaGreatDoorPLSqrt
namespace Go.Proofs.YtecjnnhkbmkemaaGreatDoor
open Go.RowKit
def Fit (xs : List Nat) : Prop := xs.length ≤ 2147483648
def FitZ (z : Int) : Prop := (digs z.natAbs).length ≤ 2147483648
theorem FitZ.of_lt {z : Int} {k : Nat} (h : z.natAbs < 4294967296 ^ k) (hk : k ≤ 2147483648) : FitZ z := Nat.le_trans (digs_length_le h) hk
theorem FitZ.small {z : Int} (h : z.natAbs < 4294967296) : FitZ z := .of_lt (k := 1) (by simpa using h) (by decide)
theorem ok_i_Add {na nb : Bool} {xs ys : List Nat} (hw : Wd xs) (hw' : Wd ys) (h1 : Fit xs) (h2 : Fit ys) {z : Int} (hz : toZ na xs + toZ nb ys = z) : CallOK Tryz.prog 84 [dI na xs, dI nb ys] (.one (dZ z)) :=
  ok2 (enter_of Tryz.func84 rfl rfl) hw hw' (fun v u w h k => by have := i_Add v u na nb xs ys w h k h1 h2; rwa [hz] at this) (fun _ _ _ _ hS h => retA_int hS h)
theorem okz_i_Add {a b : Int} (h1 : FitZ a) (h2 : FitZ b) : CallOK Tryz.prog 84 [dZ a, dZ b] (.one (dZ (a + b))) := ok_i_Add (Wd_digs _) (Wd_digs _) h1 h2 (by rw [toZ_int, toZ_int])
theorem ok_i_Mul {na nb : Bool} {xs ys : List Nat} (hw : Wd xs) (hw' : Wd ys) (h1 : Fit xs) (h2 : Fit ys) {z : Int} (hz : toZ na xs * toZ nb ys = z) : CallOK Tryz.prog 82 [dI na xs, dI nb ys] (.one (dZ z)) :=
  ok2 (enter_of Tryz.func82 rfl rfl) hw hw' (fun v u w h k => by have := i_Mul v u na nb xs ys w h k h1 h2; rwa [hz] at this) (fun _ _ _ _ hS h => retA_int hS h)
theorem okz_i_Mul {a b : Int} (h1 : FitZ a) (h2 : FitZ b) : CallOK Tryz.prog 82 [dZ a, dZ b] (.one (dZ (a * b))) := ok_i_Mul (Wd_digs _) (Wd_digs _) h1 h2 (by rw [toZ_int, toZ_int])
theorem ok_r1_Add {na nb : Bool} {xs ys : List Nat} (hw : Wd xs) (hw' : Wd ys) (h1 : Fit xs) (h2 : Fit ys) {z : Int} (hz : toZ na xs + toZ nb ys = z) : CallOK Tryz.prog 61 [dI na xs, dI nb ys] (.one (dZ z)) :=
  ok2 (enter_of Tryz.func61 rfl rfl) hw hw' (fun v u w h k => by have := r1_Add v u na nb xs ys w h k h1 h2; rwa [hz] at this) (fun _ _ _ _ hS h => retA_int hS h)
theorem okz_r1_Add {a b : Int} (h1 : FitZ a) (h2 : FitZ b) : CallOK Tryz.prog 61 [dZ a, dZ b] (.one (dZ (a + b))) := ok_r1_Add (Wd_digs _) (Wd_digs _) h1 h2 (by rw [toZ_int, toZ_int])
theorem ok_r1_Mul {na nb : Bool} {xs ys : List Nat} (hw : Wd xs) (hw' : Wd ys) (h1 : Fit xs) (h2 : Fit ys) {z : Int} (hz : toZ na xs * toZ nb ys = z) : CallOK Tryz.prog 59 [dI na xs, dI nb ys] (.one (dZ z)) :=
  ok2 (enter_of Tryz.func59 rfl rfl) hw hw' (fun v u w h k => by have := r1_Mul v u na nb xs ys w h k h1 h2; rwa [hz] at this) (fun _ _ _ _ hS h => retA_int hS h)
theorem okz_r1_Mul {a b : Int} (h1 : FitZ a) (h2 : FitZ b) : CallOK Tryz.prog 59 [dZ a, dZ b] (.one (dZ (a * b))) := ok_r1_Mul (Wd_digs _) (Wd_digs _) h1 h2 (by rw [toZ_int, toZ_int])
theorem ok_i_Norm {na : Bool} {xs : List Nat} (hw : Wd xs) (h1 : Fit xs) {z : Int} (hz :  (toZ na xs) = z) : CallOK Tryz.prog 75 [dI na xs] (.one (dZ z)) :=
  ok1 (enter_of Tryz.func75 rfl rfl) hw (fun v w h => by have := i_Norm v na xs w h h1; rwa [hz] at this) (fun _ _ _ _ hS h => retA_int hS h)
theorem ok_i_Neg {na : Bool} {xs : List Nat} (hw : Wd xs) (h1 : Fit xs) {z : Int} (hz : - (toZ na xs) = z) : CallOK Tryz.prog 85 [dI na xs] (.one (dZ z)) :=
  ok1 (enter_of Tryz.func85 rfl rfl) hw (fun v w h => by have := i_Neg v na xs w h h1; rwa [hz] at this) (fun _ _ _ _ hS h => retA_int hS h)
theorem okz_i_Neg {a : Int} (h1 : FitZ a) : CallOK Tryz.prog 85 [dZ a] (.one (dZ (- a))) := ok_i_Neg (Wd_digs _) h1 (by rw [toZ_int])
theorem ok_r1_Norm {na : Bool} {xs : List Nat} (hw : Wd xs) {z : Int} (hz :  (toZ na xs) = z) : CallOK Tryz.prog 35 [dI na xs] (.one (dZ z)) :=
  ok1 (enter_of Tryz.func35 rfl rfl) hw (fun v w h => by have := r1_Norm v na xs w h; rwa [hz] at this) (fun _ _ _ _ hS h => retA_int hS h)
theorem ok_r1_Neg {na : Bool} {xs : List Nat} (hw : Wd xs) {z : Int} (hz : - (toZ na xs) = z) : CallOK Tryz.prog 65 [dI na xs] (.one (dZ z)) :=
  ok1 (enter_of Tryz.func65 rfl rfl) hw (fun v w h => by have := r1_Neg v na xs w h; rwa [hz] at this) (fun _ _ _ _ hS h => retA_int hS h)
theorem okz_r1_Neg (a : Int) : CallOK Tryz.prog 65 [dZ a] (.one (dZ (- a))) := ok_r1_Neg (Wd_digs _) (by rw [toZ_int])
theorem retA_N {S : Nat → Prop} {w w' : World} {e : Ending} {z : Int} (hr : RetN z w e w') : RetA S (.one (dN .i64 z)) w e w' := by
  obtain ⟨rfl, hb⟩ := hr
  exact ⟨_, rfl, AV.M.val rfl, hb⟩
theorem ok_r1_Sign {na : Bool} {xs : List Nat} (hw : Wd xs) {z : Int} (hz : (toZ na xs).sign = z) : CallOK Tryz.prog 66 [dI na xs] (.one (dN .i64 z)) :=
  ok1 (enter_of Tryz.func66 rfl rfl) hw (fun v w h => by have := r1_Sign v na xs w h; first | rwa [hz] at this | rwa [sgn_sign, hz] at this) (fun _ _ _ _ _ h => retA_N h)
theorem okz_r1_Sign (a : Int) : CallOK Tryz.prog 66 [dZ a] (.one (dN .i64 a.sign)) := ok_r1_Sign (Wd_digs _) (by rw [toZ_int])
theorem ok_i_Cmp {na nb : Bool} {xs ys : List Nat} (hw : Wd xs) (hw' : Wd ys) {z : Int} (hz : ordI (toZ na xs) (toZ nb ys) = z) : CallOK Tryz.prog 86 [dI na xs, dI nb ys] (.one (dN .i64 z)) :=
  ok2 (enter_of Tryz.func86 rfl rfl) hw hw' (fun v u w h k => by have := i_Cmp v u na nb xs ys w h k; rwa [hz] at this) (fun _ _ _ _ _ h => retA_N h)
theorem okz_i_Cmp (a b : Int) : CallOK Tryz.prog 86 [dZ a, dZ b] (.one (dN .i64 (ordI a b))) := ok_i_Cmp (Wd_digs _) (Wd_digs _) (by rw [toZ_int, toZ_int])
theorem ok_i_FromInt (k : Int) (h1 : -9223372036854775808 ≤ k) (h2 : k < 9223372036854775808) : CallOK Tryz.prog 80 [dN .i64 k] (.one (dZ k)) :=
  ⟨enter_of Tryz.func80 rfl rfl, fun S w vs hS hv => by
    match vs, hv with
    | [v], ⟨h, _⟩ =>
      obtain rfl := av_val h
      exact (i_FromInt k h1 h2 w).mono fun e w' he => retA_int hS he⟩
theorem ok_r1_FromInt (k : Int) (h1 : -9223372036854775808 ≤ k) (h2 : k < 9223372036854775808) : CallOK Tryz.prog 19 [dN .i64 k] (.one (dZ k)) :=
  ⟨enter_of Tryz.func19 rfl rfl, fun S w vs hS hv => by
    match vs, hv with
    | [v], ⟨h, _⟩ =>
      obtain rfl := av_val h
      exact (r1_FromInt k h1 h2 w).mono fun e w' he => retA_int hS he⟩
theorem toZ_zero {na : Bool} {xs : List Nat} : toZ na xs = 0 ↔ val xs = 0 := by unfold toZ; cases na <;> simp
theorem ok_i_DivMod {na nb : Bool} {xs ys : List Nat} (hw : Wd xs) (hw' : Wd ys) (h1 : Fit xs) (h2 : Fit ys) (h0 : toZ nb ys ≠ 0) {q r : Int} (hq : (toZ na xs).fdiv (toZ nb ys) = q) (hr : (toZ na xs).fmod (toZ nb ys) = r) : CallOK Tryz.prog 53 [dI na xs, dI nb ys] (.tup [dZ q, dZ r, dN .i64 0]) :=
  ok2 (enter_of Tryz.func53 rfl rfl) hw hw' (fun v u w h k => by
    have hy : val ys ≠ 0 := fun e => h0 (toZ_zero.2 e)
    have := i_DivMod v u na nb xs ys w h k h1 h2 (divOk (by have := trim_length hw; unfold trim at this; unfold Fit at h1; omega) (by omega)) hy
    rwa [hq, hr] at this) (fun _ _ _ _ hS h => retA_DM hS h)
theorem ok_r1_DivMod {na nb : Bool} {xs ys : List Nat} (hw : Wd xs) (hw' : Wd ys) (h1 : Fit xs) (h2 : Fit ys) (h0 : toZ nb ys ≠ 0) {q r : Int} (hq : (toZ na xs).fdiv (toZ nb ys) = q) (hr : (toZ na xs).fmod (toZ nb ys) = r) : CallOK Tryz.prog 93 [dI na xs, dI nb ys] (.tup [dZ q, dZ r, dN .i64 0]) :=
  ok2 (enter_of Tryz.func93 rfl rfl) hw hw' (fun v u w h k => by
    have := r1_DivMod v u na nb xs ys w h k h1 h2 h0
    rwa [hq, hr] at this) (fun _ _ _ _ hS h => retA_DM hS h)
end Go.Proofs.YtecjnnhkbmkemaaGreatDoor
