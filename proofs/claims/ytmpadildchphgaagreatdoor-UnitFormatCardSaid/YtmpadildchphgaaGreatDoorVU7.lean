/- The examples of the unit laws; short quantities that come in. -/
import Derived.Test.YtmpadildchphgaaGreatDoorVZ5
namespace Go.Proofs.YtmpadildchphgaaGreatDoor
open Go.RowKit
theorem ok_l23_number (n : Int) (h1 : -9223372036854775808 ≤ n) (h2 : n < 9223372036854775808) (u : List UInt8) : CallOK Tryz.prog 40 [dN .i64 n, dL u] (.one (dE (.num (n : Rat) u))) := by
  refine callOK_of TT_ok mixT Tryz.func40 rfl rfl (Nat.le_of_ble_eq_true rfl) ?_
  repeat (first | refine r_op rfl rfl rfl rfl ?_ | refine r_skip rfl rfl rfl ?_ | refine .done ?_ | refine r_seq (T := TT) ?_ | refine r_region (T := TT) rfl ?_ | refine r_block (T := TT) ?_ | refine r_then (T := TT) rfl ?_ | refine r_else (T := TT) rfl ?_)
  refine r_call (ok_r2_FromInt n h1 h2 (q := (n : Rat)) rfl) rfl rfl rfl rfl rfl rfl rfl ?_
  repeat (first | refine r_op rfl rfl rfl rfl ?_ | refine r_skip rfl rfl rfl ?_ | refine .done ?_ | refine r_seq (T := TT) ?_ | refine r_region (T := TT) rfl ?_ | refine r_block (T := TT) ?_ | refine r_then (T := TT) rfl ?_ | refine r_else (T := TT) rfl ?_)
  exact r_fin (T := TT) rfl rfl
theorem sorted_nil : Sorted [] := fun i j a b _ h => by simp at h
theorem int_sz8 {n : Int} (h : n.natAbs < 4294967296) : SzQ 8 (n : Rat) := ⟨(Sz.small h).mono (by decide), (Sz.small (z := 1) (by decide)).mono (by decide)⟩
theorem ok_eval_nil (e : Ex) (ho : okE e) (hw : wtE e ≤ 1000000) {r : QR} (hr : evE (fun _ => none) e = r) : CallOK Tryz.prog 22 [dE e, dNm [], dVl []] (toRV r) := by
  have := ok_u_Eval sorted_nil (by decide) (fun x h => by cases h) e ho hw
  rw [← hr]
  exact this
theorem ok_l23_awake : CallOK Tryz.prog 10 [] (.one (dB true)) := by
  have f1 : fac [105, 110] = some (Rat.divInt 127 5) := rfl
  have f2 : fac [99, 109] = some ((10 : Int) : Rat) := rfl
  have f3 : fac [109, 109] = some ((1 : Int) : Rat) := rfl
  have a1 : ((2 : Int) : Rat) * Rat.divInt 127 5 = Rat.divInt 254 5 := by rw [← divInt_one, Rat.divInt_mul_divInt]; rfl
  have a2 : ((1 : Int) : Rat) * ((10 : Int) : Rat) + ((5 : Int) : Rat) * ((1 : Int) : Rat) = ((15 : Int) : Rat) := by rw [← Rat.intCast_mul, ← Rat.intCast_mul, ← Rat.intCast_add]; rfl
  have c1 := ok_eval_nil (.num ((2 : Int) : Rat) [105, 110]) (int_sz8 (by decide)) (by decide) (r := .ok (Rat.divInt 254 5, 1)) (by simp only [evE, f1, a1]; rfl)
  have c2 := ok_eval_nil (.bin .add (.num ((1 : Int) : Rat) [99, 109]) (.num ((5 : Int) : Rat) [109, 109])) ⟨int_sz8 (by decide), int_sz8 (by decide)⟩ (by decide) (r := .ok (((15 : Int) : Rat), 1)) (by
    have e1 : evE (fun _ => none) (.num ((1 : Int) : Rat) [99, 109]) = .ok (((1 : Int) : Rat) * ((10 : Int) : Rat), 1) := by simp only [evE, f2]; rfl
    have e2 : evE (fun _ => none) (.num ((5 : Int) : Rat) [109, 109]) = .ok (((5 : Int) : Rat) * ((1 : Int) : Rat), 1) := by simp only [evE, f3]; rfl
    have : evE (fun _ => none) (.bin .add (.num ((1 : Int) : Rat) [99, 109]) (.num ((5 : Int) : Rat) [109, 109])) = addR (((1 : Int) : Rat) * ((10 : Int) : Rat)) 1 (((5 : Int) : Rat) * ((1 : Int) : Rat)) 1 := by rw [evE, e1, e2]; rfl
    rw [this, addR, if_pos rfl, a2])
  have c3 := ok_eval_nil (.bin .add (.num ((1 : Int) : Rat) [99, 109]) (.num ((5 : Int) : Rat) [])) ⟨int_sz8 (by decide), int_sz8 (by decide)⟩ (by decide) (r := .error 8) (by
    have e1 : evE (fun _ => none) (.num ((1 : Int) : Rat) [99, 109]) = .ok (((1 : Int) : Rat) * ((10 : Int) : Rat), 1) := by simp only [evE, f2]; rfl
    have e2 : evE (fun _ => none) (.num ((5 : Int) : Rat) []) = .ok (((5 : Int) : Rat), 0) := rfl
    have : evE (fun _ => none) (.bin .add (.num ((1 : Int) : Rat) [99, 109]) (.num ((5 : Int) : Rat) [])) = addR (((1 : Int) : Rat) * ((10 : Int) : Rat)) 1 ((5 : Int) : Rat) 0 := by rw [evE, e1, e2]; rfl
    rw [this, addR, if_neg (by decide)])
  have hs1 : SzQ 8 (Rat.divInt 254 5) := .divInt ((Sz.small (by decide)).mono (by decide)) ((Sz.small (by decide)).mono (by decide)) (by decide)
  have t1 : fmtQt ⟨1, 2, by decide, by decide⟩ (-1) = [49, 47, 50, 32, 109, 109, 94, 45, 49] := by
    unfold fmtQt fmtQ fmt
    simp [dec_lt10]
    decide
  refine callOK_of TT_ok mixT Tryz.func10 rfl rfl (Nat.le_of_ble_eq_true rfl) ?_
  repeat (first | refine r_op rfl rfl rfl rfl ?_ | refine r_skip rfl rfl rfl ?_ | refine .done ?_ | refine r_seq (T := TT) ?_ | refine r_region (T := TT) rfl ?_ | refine r_block (T := TT) ?_ | refine r_then (T := TT) rfl ?_ | refine r_else (T := TT) rfl ?_)
  refine r_call (ok_l23_number 2 (by decide) (by decide) [105, 110]) rfl rfl rfl rfl rfl rfl rfl ?_
  refine r_call (c1) rfl rfl rfl rfl rfl rfl rfl ?_
  repeat (first | refine r_op rfl rfl rfl rfl ?_ | refine r_skip rfl rfl rfl ?_ | refine .done ?_ | refine r_seq (T := TT) ?_ | refine r_region (T := TT) rfl ?_ | refine r_block (T := TT) ?_ | refine r_then (T := TT) rfl ?_ | refine r_else (T := TT) rfl ?_)
  refine r_call (ok_l23_number 1 (by decide) (by decide) [99, 109]) rfl rfl rfl rfl rfl rfl rfl ?_
  refine r_call (ok_l23_number 5 (by decide) (by decide) [109, 109]) rfl rfl rfl rfl rfl rfl rfl ?_
  repeat (first | refine r_op rfl rfl rfl rfl ?_ | refine r_skip rfl rfl rfl ?_ | refine .done ?_ | refine r_seq (T := TT) ?_ | refine r_region (T := TT) rfl ?_ | refine r_block (T := TT) ?_ | refine r_then (T := TT) rfl ?_ | refine r_else (T := TT) rfl ?_)
  refine r_call (c2) rfl rfl rfl rfl rfl rfl rfl ?_
  repeat (first | refine r_op rfl rfl rfl rfl ?_ | refine r_skip rfl rfl rfl ?_ | refine .done ?_ | refine r_seq (T := TT) ?_ | refine r_region (T := TT) rfl ?_ | refine r_block (T := TT) ?_ | refine r_then (T := TT) rfl ?_ | refine r_else (T := TT) rfl ?_)
  refine r_call (ok_l23_number 1 (by decide) (by decide) [99, 109]) rfl rfl rfl rfl rfl rfl rfl ?_
  refine r_call (ok_l23_number 5 (by decide) (by decide) []) rfl rfl rfl rfl rfl rfl rfl ?_
  repeat (first | refine r_op rfl rfl rfl rfl ?_ | refine r_skip rfl rfl rfl ?_ | refine .done ?_ | refine r_seq (T := TT) ?_ | refine r_region (T := TT) rfl ?_ | refine r_block (T := TT) ?_ | refine r_then (T := TT) rfl ?_ | refine r_else (T := TT) rfl ?_)
  refine r_call (c3) rfl rfl rfl rfl rfl rfl rfl ?_
  repeat (first | refine r_op rfl rfl rfl rfl ?_ | refine r_skip rfl rfl rfl ?_ | refine .done ?_ | refine r_seq (T := TT) ?_ | refine r_region (T := TT) rfl ?_ | refine r_block (T := TT) ?_ | refine r_then (T := TT) rfl ?_ | refine r_else (T := TT) rfl ?_)
  refine r_call (ok_r2_Frac 254 5 (by decide) (by decide) (by decide) (by decide) (q := Rat.divInt 254 5) rfl) rfl rfl rfl rfl rfl rfl rfl ?_
  repeat (first | refine r_op rfl rfl rfl rfl ?_ | refine r_skip rfl rfl rfl ?_ | refine .done ?_ | refine r_seq (T := TT) ?_ | refine r_region (T := TT) rfl ?_ | refine r_block (T := TT) ?_ | refine r_then (T := TT) rfl ?_ | refine r_else (T := TT) rfl ?_)
  refine r_call (same23 hs1 (by decide)) rfl rfl rfl rfl rfl rfl rfl ?_
  repeat (first | refine r_op rfl rfl rfl rfl ?_ | refine r_skip rfl rfl rfl ?_ | refine .done ?_ | refine r_seq (T := TT) ?_ | refine r_region (T := TT) rfl ?_ | refine r_block (T := TT) ?_ | refine r_then (T := TT) rfl ?_ | refine r_else (T := TT) rfl ?_)
  refine r_call (ok_r2_FromInt 15 (by decide) (by decide) (q := ((15 : Int) : Rat)) rfl) rfl rfl rfl rfl rfl rfl rfl ?_
  repeat (first | refine r_op rfl rfl rfl rfl ?_ | refine r_skip rfl rfl rfl ?_ | refine .done ?_ | refine r_seq (T := TT) ?_ | refine r_region (T := TT) rfl ?_ | refine r_block (T := TT) ?_ | refine r_then (T := TT) rfl ?_ | refine r_else (T := TT) rfl ?_)
  refine r_call (same23 (int_sz8 (n := 15) (by decide)) (by decide)) rfl rfl rfl rfl rfl rfl rfl ?_
  repeat (first | refine r_op rfl rfl rfl rfl ?_ | refine r_skip rfl rfl rfl ?_ | refine .done ?_ | refine r_seq (T := TT) ?_ | refine r_region (T := TT) rfl ?_ | refine r_block (T := TT) ?_ | refine r_then (T := TT) rfl ?_ | refine r_else (T := TT) rfl ?_)
  refine r_call (ok_r2_Frac 1 2 (by decide) (by decide) (by decide) (by decide) (q := ⟨1, 2, by decide, by decide⟩) (divInt_is (by decide) (by decide) (by decide) (by decide))) rfl rfl rfl rfl rfl rfl rfl ?_
  repeat (first | refine r_op rfl rfl rfl rfl ?_ | refine r_skip rfl rfl rfl ?_ | refine .done ?_ | refine r_seq (T := TT) ?_ | refine r_region (T := TT) rfl ?_ | refine r_block (T := TT) ?_ | refine r_then (T := TT) rfl ?_ | refine r_else (T := TT) rfl ?_)
  refine r_call (ok_u_Format (a := ⟨1, 2, by decide, by decide⟩) (p := -1) (szQ1 (by decide) (by decide)) (by decide) (by decide) t1) rfl rfl rfl rfl rfl rfl rfl ?_
  refine r_bin rfl rfl rfl rfl rfl rfl rfl (binV_eqT (a := [49, 47, 50, 32, 109, 109, 94, 45, 49]) (b := [49, 47, 50, 32, 109, 109, 94, 45, 49]) rfl) ?_
  repeat (first | refine r_op rfl rfl rfl rfl ?_ | refine r_skip rfl rfl rfl ?_ | refine .done ?_ | refine r_seq (T := TT) ?_ | refine r_region (T := TT) rfl ?_ | refine r_block (T := TT) ?_ | refine r_then (T := TT) rfl ?_ | refine r_else (T := TT) rfl ?_)
  exact r_fin (T := TT) rfl rfl
end Go.Proofs.YtmpadildchphgaaGreatDoor
