/- Parts of a proof: contracts of the functions that the laws reach. -/
import Derived.Test.YtmpadildchphgaaGreatDoorSZ2
import Derived.Test.YtmpadildchphgaaGreatDoorSAm
import Derived.Test.YtmpadildchphgaaGreatDoorSLaw
import Derived.Test.YtmpadildchphgaaGreatDoorSAmI
import Derived.Test.YtmpadildchphgaaGreatDoorSZ1
namespace Go.Proofs.YtmpadildchphgaaGreatDoor
open Go.RowKit
theorem ok_u_lim_t {q : Rat} {p : Int} (h : inP p = true) : CallOK Tryz.prog 44 [dQ q, dN .i64 p] (.tup [dQt q p, dN .i64 0]) := by
  simp only [inP, Bool.and_eq_true, decide_eq_true_eq] at h
  refine callOK_of TT_ok mixT Tryz.func44 rfl rfl (Nat.le_of_ble_eq_true rfl) ?_
  repeat refine r_seq (T := TT) ?_
  refine r_region (T := TT) rfl ?_
  repeat (first | refine r_op rfl rfl rfl rfl ?_ | refine r_skip rfl rfl rfl ?_)
  try refine .done ?_
  repeat refine r_seq (T := TT) ?_
  refine r_region (T := TT) rfl ?_
  iterate 1 (first | refine r_op rfl rfl rfl rfl ?_ | refine r_skip rfl rfl rfl ?_)
  refine r_eq (v' := .bool false) rfl rfl rfl rfl ?_ ?_
  · exact congrArg Value.bool (decide_eq_false (by omega))
  iterate 2 (first | refine r_op rfl rfl rfl rfl ?_ | refine r_skip rfl rfl rfl ?_)
  refine r_eq (v' := .bool false) rfl rfl rfl rfl ?_ ?_
  · exact congrArg Value.bool (decide_eq_false (by omega))
  repeat (first | refine r_op rfl rfl rfl rfl ?_ | refine r_skip rfl rfl rfl ?_ | refine .done ?_ | refine r_seq (T := TT) ?_ | refine r_region (T := TT) rfl ?_ | refine r_block (T := TT) ?_ | refine r_then (T := TT) rfl ?_ | refine r_else (T := TT) rfl ?_)
  exact r_fin (T := TT) rfl rfl
theorem ok_u_lim_f {q : Rat} {p : Int} (h : inP p = false) : CallOK Tryz.prog 44 [dQ q, dN .i64 p] (.tup [dQt0, dN .i64 8]) := by
  simp only [inP, Bool.and_eq_false_iff, decide_eq_false_iff_not] at h
  by_cases h1 : p < -4
  · refine callOK_of TT_ok mixT Tryz.func44 rfl rfl (Nat.le_of_ble_eq_true rfl) ?_
    repeat refine r_seq (T := TT) ?_
    refine r_region (T := TT) rfl ?_
    repeat (first | refine r_op rfl rfl rfl rfl ?_ | refine r_skip rfl rfl rfl ?_)
    try refine .done ?_
    repeat refine r_seq (T := TT) ?_
    refine r_region (T := TT) rfl ?_
    iterate 1 (first | refine r_op rfl rfl rfl rfl ?_ | refine r_skip rfl rfl rfl ?_)
    refine r_eq (v' := .bool true) rfl rfl rfl rfl ?_ ?_
    · exact congrArg Value.bool (decide_eq_true h1)
    repeat (first | refine r_op rfl rfl rfl rfl ?_ | refine r_skip rfl rfl rfl ?_ | refine .done ?_ | refine r_seq (T := TT) ?_ | refine r_region (T := TT) rfl ?_ | refine r_block (T := TT) ?_ | refine r_then (T := TT) rfl ?_ | refine r_else (T := TT) rfl ?_)
    exact r_fin (T := TT) rfl rfl
  · refine callOK_of TT_ok mixT Tryz.func44 rfl rfl (Nat.le_of_ble_eq_true rfl) ?_
    repeat refine r_seq (T := TT) ?_
    refine r_region (T := TT) rfl ?_
    repeat (first | refine r_op rfl rfl rfl rfl ?_ | refine r_skip rfl rfl rfl ?_)
    try refine .done ?_
    repeat refine r_seq (T := TT) ?_
    refine r_region (T := TT) rfl ?_
    iterate 1 (first | refine r_op rfl rfl rfl rfl ?_ | refine r_skip rfl rfl rfl ?_)
    refine r_eq (v' := .bool false) rfl rfl rfl rfl ?_ ?_
    · exact congrArg Value.bool (decide_eq_false h1)
    iterate 2 (first | refine r_op rfl rfl rfl rfl ?_ | refine r_skip rfl rfl rfl ?_)
    refine r_eq (v' := .bool true) rfl rfl rfl rfl ?_ ?_
    · exact congrArg Value.bool (decide_eq_true (by omega))
    repeat (first | refine r_op rfl rfl rfl rfl ?_ | refine r_skip rfl rfl rfl ?_ | refine .done ?_ | refine r_seq (T := TT) ?_ | refine r_region (T := TT) rfl ?_ | refine r_block (T := TT) ?_ | refine r_then (T := TT) rfl ?_ | refine r_else (T := TT) rfl ?_)
    exact r_fin (T := TT) rfl rfl
abbrev QR := Except Int (Rat × Int)
def toRV : QR → RV
  | .ok x => .tup [dQt x.1 x.2, dN .i64 0]
  | .error e => .tup [dQt0, dN .i64 e]
def addR (a : Rat) (p : Int) (b : Rat) (p' : Int) : QR := if p = p' then .ok (a + b, p) else .error 8
def mulR (a : Rat) (p : Int) (b : Rat) (p' : Int) : QR := if inP (p + p') then .ok (a * b, p + p') else .error 8
def divR (a : Rat) (p : Int) (b : Rat) (p' : Int) : QR := if b = 0 then .error 6 else if inP (p - p') then .ok (a / b, p - p') else .error 8
set_option maxHeartbeats 1000000 in
theorem ok_u_Add {j k : Nat} {a b : Rat} {p p' : Int} (h : SzQ j a) (h' : SzQ k b) (hk : j + k + 1 ≤ 2147483648) (hp : inP p = true) : CallOK Tryz.prog 12 [dQt a p, dQt b p'] (toRV (addR a p b p')) := by
  unfold addR
  by_cases e : p = p'
  · rw [if_pos e]
    refine callOK_of TT_ok mixT Tryz.func12 rfl rfl (Nat.le_of_ble_eq_true rfl) ?_
    repeat refine r_seq (T := TT) ?_
    refine r_region (T := TT) rfl ?_
    repeat (first | refine r_op rfl rfl rfl rfl ?_ | refine r_skip rfl rfl rfl ?_)
    try refine .done ?_
    repeat refine r_seq (T := TT) ?_
    refine r_region (T := TT) rfl ?_
    iterate 4 (first | refine r_op rfl rfl rfl rfl ?_ | refine r_skip rfl rfl rfl ?_)
    refine r_eq (v' := .bool false) rfl rfl rfl rfl ?_ ?_
    · exact congrArg Value.bool ((by rw [e]; simp))
    repeat (first | refine r_op rfl rfl rfl rfl ?_ | refine r_skip rfl rfl rfl ?_ | refine .done ?_ | refine r_seq (T := TT) ?_ | refine r_region (T := TT) rfl ?_ | refine r_block (T := TT) ?_ | refine r_then (T := TT) rfl ?_ | refine r_else (T := TT) rfl ?_)
    refine r_call (ok_q_Add h h' hk rfl) rfl rfl rfl rfl rfl rfl rfl ?_
    repeat (first | refine r_op rfl rfl rfl rfl ?_ | refine r_skip rfl rfl rfl ?_ | refine .done ?_ | refine r_seq (T := TT) ?_ | refine r_region (T := TT) rfl ?_ | refine r_block (T := TT) ?_ | refine r_then (T := TT) rfl ?_ | refine r_else (T := TT) rfl ?_)
    refine r_call (ok_u_lim_t hp) rfl rfl rfl rfl rfl rfl rfl ?_
    repeat (first | refine r_op rfl rfl rfl rfl ?_ | refine r_skip rfl rfl rfl ?_ | refine .done ?_ | refine r_seq (T := TT) ?_ | refine r_region (T := TT) rfl ?_ | refine r_block (T := TT) ?_ | refine r_then (T := TT) rfl ?_ | refine r_else (T := TT) rfl ?_)
    exact r_fin (T := TT) rfl rfl
  · rw [if_neg e]
    refine callOK_of TT_ok mixT Tryz.func12 rfl rfl (Nat.le_of_ble_eq_true rfl) ?_
    repeat refine r_seq (T := TT) ?_
    refine r_region (T := TT) rfl ?_
    repeat (first | refine r_op rfl rfl rfl rfl ?_ | refine r_skip rfl rfl rfl ?_)
    try refine .done ?_
    repeat refine r_seq (T := TT) ?_
    refine r_region (T := TT) rfl ?_
    iterate 4 (first | refine r_op rfl rfl rfl rfl ?_ | refine r_skip rfl rfl rfl ?_)
    refine r_eq (v' := .bool true) rfl rfl rfl rfl ?_ ?_
    · exact congrArg Value.bool ((by simpa using e))
    repeat (first | refine r_op rfl rfl rfl rfl ?_ | refine r_skip rfl rfl rfl ?_ | refine .done ?_ | refine r_seq (T := TT) ?_ | refine r_region (T := TT) rfl ?_ | refine r_block (T := TT) ?_ | refine r_then (T := TT) rfl ?_ | refine r_else (T := TT) rfl ?_)
    exact r_fin (T := TT) rfl rfl
theorem inP_add {p p' : Int} (h : inP p = true) (h' : inP p' = true) : -8 ≤ p + p' ∧ p + p' ≤ 8 ∧ -8 ≤ p - p' ∧ p - p' ≤ 8 := by
  simp only [inP, Bool.and_eq_true, decide_eq_true_eq] at h h'
  omega
set_option maxHeartbeats 1000000 in
theorem ok_u_Mul {j k : Nat} {a b : Rat} {p p' : Int} (h : SzQ j a) (h' : SzQ k b) (hk : j + k ≤ 2147483648) (hp : inP p = true) (hp' : inP p' = true) : CallOK Tryz.prog 14 [dQt a p, dQt b p'] (toRV (mulR a p b p')) := by
  have hr := inP_add hp hp'
  unfold mulR
  cases e : inP (p + p')
  · rw [if_neg (by simp)]
    refine callOK_of TT_ok mixT Tryz.func14 rfl rfl (Nat.le_of_ble_eq_true rfl) ?_
    repeat (first | refine r_op rfl rfl rfl rfl ?_ | refine r_skip rfl rfl rfl ?_ | refine .done ?_ | refine r_seq (T := TT) ?_ | refine r_region (T := TT) rfl ?_ | refine r_block (T := TT) ?_ | refine r_then (T := TT) rfl ?_ | refine r_else (T := TT) rfl ?_)
    refine r_call (ok_q_Mul h h' hk rfl) rfl rfl rfl rfl rfl rfl rfl ?_
    iterate 4 (first | refine r_op rfl rfl rfl rfl ?_ | refine r_skip rfl rfl rfl ?_)
    refine r_eq (v' := .int .i64 (p + p')) rfl rfl rfl rfl ?_ ?_
    · exact congrArg (Value.int .i64) (by rw [IntWalk.i64_in _ (by omega)])
    repeat (first | refine r_op rfl rfl rfl rfl ?_ | refine r_skip rfl rfl rfl ?_ | refine .done ?_ | refine r_seq (T := TT) ?_ | refine r_region (T := TT) rfl ?_ | refine r_block (T := TT) ?_ | refine r_then (T := TT) rfl ?_ | refine r_else (T := TT) rfl ?_)
    refine r_call (ok_u_lim_f e) rfl rfl rfl rfl rfl rfl rfl ?_
    repeat (first | refine r_op rfl rfl rfl rfl ?_ | refine r_skip rfl rfl rfl ?_ | refine .done ?_ | refine r_seq (T := TT) ?_ | refine r_region (T := TT) rfl ?_ | refine r_block (T := TT) ?_ | refine r_then (T := TT) rfl ?_ | refine r_else (T := TT) rfl ?_)
    exact r_fin (T := TT) rfl rfl
  · rw [if_pos rfl]
    refine callOK_of TT_ok mixT Tryz.func14 rfl rfl (Nat.le_of_ble_eq_true rfl) ?_
    repeat (first | refine r_op rfl rfl rfl rfl ?_ | refine r_skip rfl rfl rfl ?_ | refine .done ?_ | refine r_seq (T := TT) ?_ | refine r_region (T := TT) rfl ?_ | refine r_block (T := TT) ?_ | refine r_then (T := TT) rfl ?_ | refine r_else (T := TT) rfl ?_)
    refine r_call (ok_q_Mul h h' hk rfl) rfl rfl rfl rfl rfl rfl rfl ?_
    iterate 4 (first | refine r_op rfl rfl rfl rfl ?_ | refine r_skip rfl rfl rfl ?_)
    refine r_eq (v' := .int .i64 (p + p')) rfl rfl rfl rfl ?_ ?_
    · exact congrArg (Value.int .i64) (by rw [IntWalk.i64_in _ (by omega)])
    repeat (first | refine r_op rfl rfl rfl rfl ?_ | refine r_skip rfl rfl rfl ?_ | refine .done ?_ | refine r_seq (T := TT) ?_ | refine r_region (T := TT) rfl ?_ | refine r_block (T := TT) ?_ | refine r_then (T := TT) rfl ?_ | refine r_else (T := TT) rfl ?_)
    refine r_call (ok_u_lim_t e) rfl rfl rfl rfl rfl rfl rfl ?_
    repeat (first | refine r_op rfl rfl rfl rfl ?_ | refine r_skip rfl rfl rfl ?_ | refine .done ?_ | refine r_seq (T := TT) ?_ | refine r_region (T := TT) rfl ?_ | refine r_block (T := TT) ?_ | refine r_then (T := TT) rfl ?_ | refine r_else (T := TT) rfl ?_)
    exact r_fin (T := TT) rfl rfl
set_option maxHeartbeats 1000000 in
theorem ok_u_Div {j k : Nat} {a b : Rat} {p p' : Int} (h : SzQ j a) (h' : SzQ k b) (hk : j + k ≤ 2147483648) (hp : inP p = true) (hp' : inP p' = true) : CallOK Tryz.prog 16 [dQt a p, dQt b p'] (toRV (divR a p b p')) := by
  have hr := inP_add hp hp'
  have hw : IntKind.i64.wrap (p - p') = p - p' := IntWalk.i64_in _ (by omega)
  unfold divR
  by_cases hb : b = 0
  · rw [if_pos hb]
    refine callOK_of TT_ok mixT Tryz.func16 rfl rfl (Nat.le_of_ble_eq_true rfl) ?_
    repeat (first | refine r_op rfl rfl rfl rfl ?_ | refine r_skip rfl rfl rfl ?_ | refine .done ?_ | refine r_seq (T := TT) ?_ | refine r_region (T := TT) rfl ?_ | refine r_block (T := TT) ?_ | refine r_then (T := TT) rfl ?_ | refine r_else (T := TT) rfl ?_)
    refine r_call (ok_q_Div0 hb) rfl rfl rfl rfl rfl rfl rfl ?_
    repeat (first | refine r_op rfl rfl rfl rfl ?_ | refine r_skip rfl rfl rfl ?_ | refine .done ?_ | refine r_seq (T := TT) ?_ | refine r_region (T := TT) rfl ?_ | refine r_block (T := TT) ?_ | refine r_then (T := TT) rfl ?_ | refine r_else (T := TT) rfl ?_)
    exact r_fin (T := TT) rfl rfl
  · rw [if_neg hb]
    cases e : inP (p - p')
    · rw [if_neg (by simp)]
      rw [← hw] at e
      refine callOK_of TT_ok mixT Tryz.func16 rfl rfl (Nat.le_of_ble_eq_true rfl) ?_
      repeat (first | refine r_op rfl rfl rfl rfl ?_ | refine r_skip rfl rfl rfl ?_ | refine .done ?_ | refine r_seq (T := TT) ?_ | refine r_region (T := TT) rfl ?_ | refine r_block (T := TT) ?_ | refine r_then (T := TT) rfl ?_ | refine r_else (T := TT) rfl ?_)
      refine r_call (ok_q_Div h h' hk hb rfl) rfl rfl rfl rfl rfl rfl rfl ?_
      repeat (first | refine r_op rfl rfl rfl rfl ?_ | refine r_skip rfl rfl rfl ?_ | refine .done ?_ | refine r_seq (T := TT) ?_ | refine r_region (T := TT) rfl ?_ | refine r_block (T := TT) ?_ | refine r_then (T := TT) rfl ?_ | refine r_else (T := TT) rfl ?_)
      refine r_call (ok_u_lim_f e) rfl rfl rfl rfl rfl rfl rfl ?_
      repeat (first | refine r_op rfl rfl rfl rfl ?_ | refine r_skip rfl rfl rfl ?_ | refine .done ?_ | refine r_seq (T := TT) ?_ | refine r_region (T := TT) rfl ?_ | refine r_block (T := TT) ?_ | refine r_then (T := TT) rfl ?_ | refine r_else (T := TT) rfl ?_)
      exact r_fin (T := TT) rfl rfl
    · rw [if_pos rfl]
      rw [← hw] at e
      refine callOK_of TT_ok mixT Tryz.func16 rfl rfl (Nat.le_of_ble_eq_true rfl) ?_
      repeat (first | refine r_op rfl rfl rfl rfl ?_ | refine r_skip rfl rfl rfl ?_ | refine .done ?_ | refine r_seq (T := TT) ?_ | refine r_region (T := TT) rfl ?_ | refine r_block (T := TT) ?_ | refine r_then (T := TT) rfl ?_ | refine r_else (T := TT) rfl ?_)
      refine r_call (ok_q_Div h h' hk hb rfl) rfl rfl rfl rfl rfl rfl rfl ?_
      repeat (first | refine r_op rfl rfl rfl rfl ?_ | refine r_skip rfl rfl rfl ?_ | refine .done ?_ | refine r_seq (T := TT) ?_ | refine r_region (T := TT) rfl ?_ | refine r_block (T := TT) ?_ | refine r_then (T := TT) rfl ?_ | refine r_else (T := TT) rfl ?_)
      refine r_call (ok_u_lim_t e) rfl rfl rfl rfl rfl rfl rfl ?_
      repeat (first | refine r_op rfl rfl rfl rfl ?_ | refine r_skip rfl rfl rfl ?_ | refine .done ?_ | refine r_seq (T := TT) ?_ | refine r_region (T := TT) rfl ?_ | refine r_block (T := TT) ?_ | refine r_then (T := TT) rfl ?_ | refine r_else (T := TT) rfl ?_)
      refine r_fin (T := TT) rfl ?_
      rw [hw]
      rfl
theorem ok_u_negative {k : Nat} {a : Rat} {p : Int} (h : SzQ k a) (hk : k ≤ 2147483648) : CallOK Tryz.prog 58 [dQt a p] (.one (dQt (-a) p)) := by
  refine callOK_of TT_ok mixT Tryz.func58 rfl rfl (Nat.le_of_ble_eq_true rfl) ?_
  repeat (first | refine r_op rfl rfl rfl rfl ?_ | refine r_skip rfl rfl rfl ?_ | refine .done ?_ | refine r_seq (T := TT) ?_ | refine r_region (T := TT) rfl ?_ | refine r_block (T := TT) ?_ | refine r_then (T := TT) rfl ?_ | refine r_else (T := TT) rfl ?_)
  refine r_call (ok_q_Neg h hk rfl) rfl rfl rfl rfl rfl rfl rfl ?_
  repeat (first | refine r_op rfl rfl rfl rfl ?_ | refine r_skip rfl rfl rfl ?_ | refine .done ?_ | refine r_seq (T := TT) ?_ | refine r_region (T := TT) rfl ?_ | refine r_block (T := TT) ?_ | refine r_then (T := TT) rfl ?_ | refine r_else (T := TT) rfl ?_)
  exact r_fin (T := TT) rfl rfl
theorem ok_r23_Same {k : Nat} {a b : Rat} {p p' : Int} (h : SzQ k a) (hk : k ≤ 2147483648) {t : Bool} (ht : (decide (p = p') && decide (a = b)) = t) : CallOK Tryz.prog 26 [dQt a p, dQt b p'] (.one (dB t)) := by
  by_cases e : p = p'
  · refine callOK_of TT_ok mixT Tryz.func26 rfl rfl (Nat.le_of_ble_eq_true rfl) ?_
    repeat refine r_seq (T := TT) ?_
    refine r_region (T := TT) rfl ?_
    repeat (first | refine r_op rfl rfl rfl rfl ?_ | refine r_skip rfl rfl rfl ?_)
    try refine .done ?_
    repeat refine r_seq (T := TT) ?_
    refine r_region (T := TT) rfl ?_
    iterate 4 (first | refine r_op rfl rfl rfl rfl ?_ | refine r_skip rfl rfl rfl ?_)
    refine r_eq (v' := .bool true) rfl rfl rfl rfl ?_ ?_
    · exact congrArg Value.bool ((by rw [e]; simp))
    repeat (first | refine r_op rfl rfl rfl rfl ?_ | refine r_skip rfl rfl rfl ?_ | refine .done ?_ | refine r_seq (T := TT) ?_ | refine r_region (T := TT) rfl ?_ | refine r_block (T := TT) ?_ | refine r_then (T := TT) rfl ?_ | refine r_else (T := TT) rfl ?_)
    refine r_call (ok_r2_Same h hk (t := t) (by rw [← ht, decide_eq_true e]; rfl)) rfl rfl rfl rfl rfl rfl rfl ?_
    repeat (first | refine r_op rfl rfl rfl rfl ?_ | refine r_skip rfl rfl rfl ?_ | refine .done ?_ | refine r_seq (T := TT) ?_ | refine r_region (T := TT) rfl ?_ | refine r_block (T := TT) ?_ | refine r_then (T := TT) rfl ?_ | refine r_else (T := TT) rfl ?_)
    exact r_fin (T := TT) rfl rfl
  · have : t = false := by rw [← ht, decide_eq_false e]; rfl
    subst this
    refine callOK_of TT_ok mixT Tryz.func26 rfl rfl (Nat.le_of_ble_eq_true rfl) ?_
    repeat refine r_seq (T := TT) ?_
    refine r_region (T := TT) rfl ?_
    repeat (first | refine r_op rfl rfl rfl rfl ?_ | refine r_skip rfl rfl rfl ?_)
    try refine .done ?_
    repeat refine r_seq (T := TT) ?_
    refine r_region (T := TT) rfl ?_
    iterate 4 (first | refine r_op rfl rfl rfl rfl ?_ | refine r_skip rfl rfl rfl ?_)
    refine r_eq (v' := .bool false) rfl rfl rfl rfl ?_ ?_
    · exact congrArg Value.bool ((by simpa using e))
    repeat (first | refine r_op rfl rfl rfl rfl ?_ | refine r_skip rfl rfl rfl ?_ | refine .done ?_ | refine r_seq (T := TT) ?_ | refine r_region (T := TT) rfl ?_ | refine r_block (T := TT) ?_ | refine r_then (T := TT) rfl ?_ | refine r_else (T := TT) rfl ?_)
    exact r_fin (T := TT) rfl rfl
theorem same23 {k : Nat} {a : Rat} {p : Int} (h : SzQ k a) (hk : k ≤ 2147483648) : CallOK Tryz.prog 26 [dQt a p, dQt a p] (.one (dB true)) := ok_r23_Same h hk (by simp)
theorem divInt_zero {n d : Int} (hd : d ≠ 0) : Rat.divInt n d = 0 ↔ n = 0 := by
  have h0 : (0 : Rat) = Rat.divInt 0 1 := by rfl
  rw [h0, Rat.divInt_eq_divInt_iff hd (by decide)]
  simp
theorem fac_sz {s : List UInt8} {q : Rat} (h : fac s = some q) : SzQ 1 q ∧ q ≠ 0 := by
  have key : ∀ (l : List (List UInt8 × Rat)), (∀ x ∈ l, SzQ 1 x.2 ∧ x.2 ≠ 0) → ∀ q, facN s l = some q → SzQ 1 q ∧ q ≠ 0 := by
    intro l
    induction l with
    | nil => intro _ q h; cases h
    | cons x l ih =>
      intro hl q h
      obtain ⟨n, r⟩ := x
      simp only [facN] at h
      split at h
      · cases h; exact hl (n, q) (by simp)
      · exact ih (fun x hx => hl x (by simp [hx])) q h
  refine key facL (fun x hx => ?_) q h
  have i1 : ∀ n : Int, n.natAbs < 4294967296 → n ≠ 0 → SzQ 1 (n : Rat) ∧ (n : Rat) ≠ 0 := fun n h0 h1 => ⟨⟨.small h0, .small (z := 1) (by decide)⟩, fun e => h1 (by exact_mod_cast e)⟩
  have i2 : ∀ n d : Int, n.natAbs < 4294967296 → d.natAbs < 4294967296 → n ≠ 0 → d ≠ 0 → SzQ 1 (Rat.divInt n d) ∧ Rat.divInt n d ≠ 0 := fun n d h0 h1 h2 h3 => ⟨.divInt (.small h0) (.small h1) h3, fun e => h2 ((divInt_zero h3).1 e)⟩
  simp only [facL, List.mem_cons, List.not_mem_nil, or_false] at hx
  rcases hx with rfl | rfl | rfl | rfl | rfl
  · exact i1 10 (by decide) (by decide)
  · exact i2 1524 5 (by decide) (by decide) (by decide) (by decide)
  · exact i2 127 5 (by decide) (by decide) (by decide) (by decide)
  · exact i1 1000 (by decide) (by decide)
  · exact i1 1 (by decide) (by decide)
def fmtQt (a : Rat) (p : Int) : List UInt8 := if p = 0 then fmtQ a else if p = 1 then fmtQ a ++ [32, 109, 109] else fmtQ a ++ [32, 109, 109, 94] ++ fmt p
end Go.Proofs.YtmpadildchphgaaGreatDoor
namespace Go.Proofs.YtmpadildchphgaaGreatDoor
open Go.ChangeShapes Go.WideShapes Go.ChangeAt Go.RowKit Go.Joins
def Sh (P : Program) : Nat → TypeId → List AV → Prop
  | 0, _, _ => False
  | n + 1, t, cs => match P.underlying t with
    | some .bool => ∃ b, cs = [.val (.bool b)]
    | some (.int k) => ∃ i, cs = [.val (.int k i)] ∧ (Lit.int k i).wf = true
    | some .string => ∃ s : ByteArray, cs = [.val (.string s)] ∧ s.size ≤ maxLen
    | some (.slice e) => ∃ rows : List (List AV), cs = [.sl rows.length rows.flatten] ∧ rows.length ≤ maxLen ∧ ∀ r ∈ rows, Sh P n e r ∧ r.length = P.cellsOf e
    | some (.struct fs) => cs.length = P.cellsOf t ∧ ∀ f ∈ fs.toList, Sh P n f.type ((cs.drop f.offset).take (P.cellsOf f.type))
    | _ => False
def tileB (P : Program) : Nat → Nat → List Field → Bool
  | off, sz, [] => Nat.beq off sz
  | off, sz, f :: r => Nat.beq f.offset off && tileB P (off + P.cellsOf f.type) sz r
def plainB (P : Program) (L : List TypeId) : Bool := L.all fun t => match P.underlying t with
  | some .bool => true
  | some (.int _) => true
  | some .string => true
  | some (.slice e) => L.elem e
  | some (.struct fs) => (fs.toList.all fun f => L.elem f.type) && tileB P 0 (P.cellsOf t) fs.toList
  | _ => false
theorem cells_at {w : World} {a : Addr} {k : Nat} {l : List Value} (h : w.cells? 0 a k = some l) : l.length = k ∧ ∀ (i : Nat) (v : Value), l[i]? = some v → w.cell? (a.add i) = some v := by
  unfold World.cells? at h
  rw [if_pos (Nat.zero_le _)] at h
  have : ∀ (xs : List Nat) (l : List Value), xs.mapM (fun i => w.cell? (a.add i)) = some l → l.length = xs.length ∧ ∀ (i : Nat) (v : Value), l[i]? = some v → ∃ x, xs[i]? = some x ∧ w.cell? (a.add x) = some v := by
    intro xs
    induction xs with
    | nil => intro l h; simp at h; subst h; exact ⟨rfl, fun i v h => by simp at h⟩
    | cons x xs ih =>
      intro l h
      simp only [List.mapM_cons, Option.bind_eq_bind] at h
      cases h1 : w.cell? (a.add x) with
      | none => rw [h1] at h; simp at h
      | some v =>
        cases h2 : xs.mapM (fun i => w.cell? (a.add i)) with
        | none => rw [h1, h2] at h; simp at h
        | some l' =>
          rw [h1, h2] at h
          simp at h
          subst h
          obtain ⟨h3, h4⟩ := ih l' h2
          refine ⟨by simp [h3], fun i u hu => ?_⟩
          cases i with
          | zero => simp at hu; subst hu; exact ⟨x, rfl, h1⟩
          | succ i => simpa using h4 i u (by simpa using hu)
  obtain ⟨h1, h2⟩ := this _ _ h
  refine ⟨by simpa using h1, fun i v hv => ?_⟩
  obtain ⟨x, hx, hc⟩ := h2 i v hv
  have : x = i := by
    have := (List.getElem?_eq_some_iff.1 hx).2
    simpa using this.symm
  rw [← this]; exact hc
theorem mapM_get {α β : Type} {f : α → Option β} : ∀ {xs : List α} {ys : List β}, xs.mapM f = some ys → xs.length = ys.length ∧ ∀ (i : Nat) (x : α), xs[i]? = some x → ∃ y, ys[i]? = some y ∧ f x = some y
  | [], ys, h => by simp at h; subst h; exact ⟨rfl, fun i x h => by simp at h⟩
  | x :: xs, ys, h => by
    simp only [List.mapM_cons, Option.bind_eq_bind] at h
    cases h1 : f x with
    | none => rw [h1] at h; simp at h
    | some y =>
      cases h2 : xs.mapM f with
      | none => rw [h1, h2] at h; simp at h
      | some l =>
        rw [h1, h2] at h
        simp at h
        subst h
        obtain ⟨h3, h4⟩ := mapM_get h2
        refine ⟨by simp [h3], fun i z hz => ?_⟩
        cases i with
        | zero => simp at hz; subst hz; exact ⟨y, rfl, h1⟩
        | succ i => simpa using h4 i z (by simpa using hz)
theorem flatten_get {rows : List (List AV)} {k : Nat} (h : ∀ r ∈ rows, r.length = k) : ∀ (i : Nat) (r : List AV), rows[i]? = some r → ∀ j, j < k → rows.flatten[i * k + j]? = r[j]? := by
  induction rows with
  | nil => intro i r hr; simp at hr
  | cons x rows ih =>
    intro i r hr j hj
    have hx := h x (by simp)
    simp only [List.flatten_cons]
    cases i with
    | zero => simp at hr; subst hr; rw [Nat.zero_mul, Nat.zero_add, List.getElem?_append_left (by omega)]
    | succ i =>
      rw [List.getElem?_append_right (by rw [Nat.add_mul]; omega)]
      have := ih (fun r hr => h r (by simp [hr])) i r (by simpa using hr) j hj
      rw [← this]
      congr 1
      rw [Nat.add_mul]; omega
theorem flatten_len {rows : List (List AV)} {k : Nat} (h : ∀ r ∈ rows, r.length = k) : rows.flatten.length = rows.length * k := by
  induction rows with
  | nil => simp
  | cons x rows ih => rw [List.flatten_cons, List.length_append, ih (fun r hr => h r (by simp [hr])), h x (by simp), List.length_cons, Nat.add_mul]; omega
theorem tile_le {P : Program} {sz : Nat} : ∀ {fs : List Field} {off : Nat}, tileB P off sz fs = true → off ≤ sz
  | [], off, h => by have := Nat.eq_of_beq_eq_true h; omega
  | f :: r, off, h => by
    simp only [tileB, Bool.and_eq_true] at h
    have := tile_le h.2
    omega
theorem tile_cm {P : Program} {w : World} {vs : List Value} {Q : TypeId → List AV → Prop} : ∀ (fs : List Field) (off : Nat), tileB P off vs.length fs = true →
    (∀ f ∈ fs, ∃ cf, CM (fun _ => False) w cf ((vs.drop f.offset).take (P.cellsOf f.type)) ∧ Q f.type cf) →
    ∃ cs, CM (fun _ => False) w cs (vs.drop off) ∧ ∀ f ∈ fs, off ≤ f.offset ∧ Q f.type ((cs.drop (f.offset - off)).take (P.cellsOf f.type))
  | [], off, h, _ => by
    have := Nat.eq_of_beq_eq_true h
    subst this
    rw [List.drop_length]
    exact ⟨[], CM.nil _ _, fun f hf => by cases hf⟩
  | f :: r, off, h, hf => by
    simp only [tileB, Bool.and_eq_true] at h
    have ho := Nat.eq_of_beq_eq_true h.1
    obtain ⟨cf, h1, h2⟩ := hf f (by simp)
    obtain ⟨cs, h3, h4⟩ := tile_cm r _ h.2 (fun g hg => hf g (by simp [hg]))
    have hle := tile_le h.2
    rw [ho] at h1
    have hl : cf.length = P.cellsOf f.type := by rw [h1.1]; simp; omega
    refine ⟨cf ++ cs, ?_, fun g hg => ?_⟩
    · have := h1.append h3
      rwa [← List.drop_drop, List.take_append_drop] at this
    · rcases List.mem_cons.1 hg with rfl | hg
      · refine ⟨by omega, ?_⟩
        rw [ho, Nat.sub_self, List.drop_zero, List.take_left' hl]
        exact h2
      · obtain ⟨h5, h6⟩ := h4 g hg
        refine ⟨by omega, ?_⟩
        rw [show g.offset - off = cf.length + (g.offset - (off + P.cellsOf f.type)) by omega, ← List.drop_drop, List.drop_left' rfl]
        exact h6
theorem sl_of {P : Program} {W : World} {e : TypeId} {a : Addr} {len cap : Nat} {rows : List (List AV)} (hcap : cap ≤ 9223372036854775807) (hlc : len ≤ cap) (hl : rows.length = len) (hsz : ∀ r ∈ rows, r.length = P.cellsOf e)
    (hr : ∀ i r, rows[i]? = some r → ∃ us : List Value, W.cells? 0 (a.add (i * P.cellsOf e)) (P.cellsOf e) = some us ∧ CM (fun _ => False) W r us) : AV.M (fun _ => False) W (.sl len rows.flatten) (.slice (some a) len cap) := by
  by_cases h0 : len * P.cellsOf e = 0
  · have : rows.flatten = [] := List.eq_nil_of_length_eq_zero (by rw [flatten_len hsz, hl]; exact h0)
    rw [this]
    exact .emp hlc hcap (fun h => by cases h)
  · have hlen : 0 < len := by
      rcases Nat.eq_zero_or_pos len with h | h
      · rw [h, Nat.zero_mul] at h0; exact absurd rfl h0
      · exact h
    have hcz : 0 < P.cellsOf e := by
      rcases Nat.eq_zero_or_pos (P.cellsOf e) with h | h
      · rw [h, Nat.mul_zero] at h0; exact absurd rfl h0
      · exact h
    have hcell : ∀ q c, rows.flatten[q]? = some c → ∃ v, W.cell? (a.add q) = some v ∧ AV.M (fun _ => False) W c v := by
      intro q c hq
      have hql : q < len * P.cellsOf e := by have := (List.getElem?_eq_some_iff.1 hq).1; rwa [flatten_len hsz, hl] at this
      have hi : q / P.cellsOf e < len := Nat.div_lt_of_lt_mul (by rw [Nat.mul_comm]; exact hql)
      have hj : q % P.cellsOf e < P.cellsOf e := Nat.mod_lt _ hcz
      have e1 : q = q / P.cellsOf e * P.cellsOf e + q % P.cellsOf e := by have := Nat.div_add_mod q (P.cellsOf e); rw [Nat.mul_comm] at this; omega
      have hrow' : rows[q / P.cellsOf e]? = some (rows[q / P.cellsOf e]'(by omega)) := by simp
      have h1 := flatten_get hsz _ _ hrow' (q % P.cellsOf e) hj
      rw [← e1, hq] at h1
      obtain ⟨us, h3, h4⟩ := hr _ _ hrow'
      have h5 := (cells_at h3)
      have h6 : us[q % P.cellsOf e]? = some (us[q % P.cellsOf e]'(by omega)) := by simp
      refine ⟨_, ?_, h4.2 _ c _ h1.symm h6⟩
      have h7 := h5.2 _ _ h6
      have e2 : (a.add (q / P.cellsOf e * P.cellsOf e)).add (q % P.cellsOf e) = a.add q := by
        unfold Addr.add
        by_cases c1 : q / P.cellsOf e * P.cellsOf e = 0
        · by_cases c2 : q % P.cellsOf e = 0
          · rw [if_pos c1, if_pos c2, if_pos (by omega)]
          · rw [if_pos c1, if_neg c2, if_neg (by omega)]
            simp <;> omega
        · by_cases c2 : q % P.cellsOf e = 0
          · rw [if_neg c1, if_pos c2, if_neg (by omega)]
            simp <;> omega
          · rw [if_neg c1, if_neg c2, if_neg (by omega)]
            simp <;> omega
      rwa [e2] at h7
    have hfl : 0 < rows.flatten.length := by rw [flatten_len hsz, hl]; exact Nat.mul_pos hlen hcz
    obtain ⟨v0, h1, _⟩ := hcell 0 rows.flatten[0] (by simp)
    have e0 : a.add 0 = a := rfl
    rw [e0] at h1
    obtain ⟨b, off, spot⟩ := a
    have hsp : spot = none := by
      cases spot with
      | none => rfl
      | some q =>
        unfold World.cell? at h1
        split at h1
        · simp at h1
        · cases h1
    subst hsp
    refine AV.M.sl (fun q => (W.cell? ⟨b, off + q, none⟩).getD undef) hlc hcap (fun h => h) (World.block_lt_of_cell? W _ h1) (fun q c hq => ?_) (fun q c hq => ?_)
    · obtain ⟨v, h3, _⟩ := hcell q c hq
      rw [addr_add] at h3
      rw [h3]; rfl
    · obtain ⟨v, h3, h4⟩ := hcell q c hq
      rw [addr_add] at h3
      rw [h3]; exact h4
section
variable {H : Type} {enc : TypeId × Value → H} {W : World} {P : Program}
theorem trod_open {L : List TypeId} (hL : plainB P L = true) : ∀ (n : Nat) (t : TypeId) (vs : List Value) (x : DataW H × List MemPlace), t ∈ L → DataW.trod enc P W 0 (fun _ => true) true n t vs = some x →
    ∃ cs, CM (fun _ => False) W cs vs ∧ Sh P n t cs := by
  intro n
  induction n with
  | zero => intro t vs x _ h; simp [DataW.trod] at h
  | succ n ih =>
    intro t vs x ht h
    have hp := List.all_eq_true.1 hL t ht
    simp only [Sh]
    cases hu : P.underlying t with
    | none => rw [hu] at hp; simp at hp
    | some d =>
      rw [hu] at hp
      cases d with
      | bool =>
        obtain ⟨b, rfl, _⟩ := DataW.trod_bool hu h
        exact ⟨_, CM.cons (.val rfl) (CM.nil _ _), b, rfl⟩
      | int k =>
        obtain ⟨i, rfl, _, h1⟩ := DataW.trod_int hu h
        exact ⟨_, CM.cons (.val rfl) (CM.nil _ _), i, rfl, h1⟩
      | string =>
        obtain ⟨s, rfl, _, h1⟩ := DataW.trod_string hu h
        exact ⟨_, CM.cons (.val rfl) (CM.nil _ _), s, rfl, h1⟩
      | slice e =>
        have he : e ∈ L := by simpa using hp
        rcases DataW.trod_slice hu h with ⟨rfl, _⟩ | ⟨a, len, cap, elems, rest, m, hm, rfl, _, _, hlc, hcm, hel, hget, _, _⟩
        · exact ⟨_, CM.cons (.emp (Nat.le_refl _) (by omega) (fun _ => rfl)) (CM.nil _ _), [], rfl, by simp, fun r hr => by cases hr⟩
        · obtain rfl : m = n := by omega
          have hrow : ∀ i, i < len → ∃ (r : List AV) (us : List Value), W.cells? 0 (a.add (i * P.cellsOf e)) (P.cellsOf e) = some us ∧ CM (fun _ => False) W r us ∧ Sh P m e r := by
            intro i hi
            have h1 := hget i hi
            have h2 : elems[i]? = some elems[i] := by simp
            rw [h2] at h1
            obtain ⟨us, h3, h4⟩ := Option.bind_eq_some_iff.1 h1
            obtain ⟨r, h5, h6⟩ := ih e us _ he h4
            exact ⟨r, us, h3, h5, h6⟩
          have hrows : ∀ k, k ≤ len → ∃ rows : List (List AV), rows.length = k ∧ ∀ i r, rows[i]? = some r → ∃ us : List Value, W.cells? 0 (a.add (i * P.cellsOf e)) (P.cellsOf e) = some us ∧ CM (fun _ => False) W r us ∧ Sh P m e r := by
            intro k
            induction k with
            | zero => intro _; exact ⟨[], rfl, fun i r h => by simp at h⟩
            | succ k ihk =>
              intro hk
              obtain ⟨rows, h1, h2⟩ := ihk (by omega)
              obtain ⟨r, us, h3, h4, h5⟩ := hrow k (by omega)
              refine ⟨rows ++ [r], by simp [h1], fun i q hq => ?_⟩
              by_cases hi : i < rows.length
              · rw [List.getElem?_append_left hi] at hq; exact h2 i q hq
              · have hil := (List.getElem?_eq_some_iff.1 hq).1
                simp at hil
                have : i = k := by omega
                subst this
                rw [List.getElem?_append_right (by omega), h1, Nat.sub_self] at hq
                simp at hq
                subst hq
                exact ⟨us, h3, h4, h5⟩
          obtain ⟨rows, hl, hr⟩ := hrows len (Nat.le_refl _)
          have hsz : ∀ r ∈ rows, r.length = P.cellsOf e := by
            intro r hm
            obtain ⟨i, hi⟩ := List.getElem?_of_mem hm
            obtain ⟨us, h3, h4, _⟩ := hr i r hi
            rw [h4.1, (cells_at h3).1]
          have hsh : ∀ r ∈ rows, Sh P m e r := by
            intro r hm
            obtain ⟨i, hi⟩ := List.getElem?_of_mem hm
            obtain ⟨us, _, _, h5⟩ := hr i r hi
            exact h5
          refine ⟨[.sl len rows.flatten], CM.cons ?_ (CM.nil _ _), rows, by rw [hl], by omega, fun r hm => ⟨hsh r hm, hsz r hm⟩⟩
          exact sl_of (rows := rows) (by unfold maxLen at hcm; omega) hlc hl hsz (fun i r hi => by obtain ⟨us, h3, h4, _⟩ := hr i r hi; exact ⟨us, h3, h4⟩)
      | struct fs =>
        simp only [Bool.and_eq_true] at hp
        obtain ⟨xs, m, hm, _, hlen, hxl, hget⟩ := DataW.trod_struct hu h
        obtain rfl : m = n := by omega
        have htile := hp.2
        rw [← hlen] at htile
        obtain ⟨cs, h1, h2⟩ := tile_cm (P := P) (w := W) (vs := vs) (Q := Sh P m) fs.toList 0 htile (fun f hf => by
          obtain ⟨i, hi⟩ := List.getElem?_of_mem hf
          have hi' : fs[i]? = some f := by simpa using hi
          have h3 := hget i f hi'
          have hil : i < xs.length := by rw [hxl]; exact (Array.getElem?_eq_some_iff.1 hi').1
          have h4 : xs[i]? = some xs[i] := by simp [hil]
          rw [h4] at h3
          have hfL : f.type ∈ L := by have := List.all_eq_true.1 hp.1 f hf; simpa using this
          exact ih f.type _ _ hfL h3)
        rw [List.drop_zero] at h1
        refine ⟨cs, h1, by rw [h1.1, hlen], fun f hf => ?_⟩
        have := (h2 f hf).2
        rwa [Nat.sub_zero] at this
      | _ => simp at hp
theorem open_sh {L : List TypeId} (hL : plainB P L = true) {t : TypeId} (ht : t ∈ L) {v : Value} {d : DataW H} {p : List MemPlace} (h : DataW.Trod enc P W 0 (fun _ => true) true t v d p) :
    ∃ n cs, CM (fun _ => False) W cs v.cells.toList ∧ Sh P n t cs := by
  obtain ⟨n, hn⟩ := h
  obtain ⟨cs, h1, h2⟩ := trod_open hL n t _ _ ht hn
  exact ⟨n, cs, h1, h2⟩
theorem dv_agg {cs : List AV} {vs : Array Value} (h : CM (fun _ => False) W cs vs.toList) : DV.M (fun _ => False) W (.agg cs) (.agg vs) := ⟨vs.toList, by simp, h⟩
end
end Go.Proofs.YtmpadildchphgaaGreatDoor
namespace Go.Proofs.YtmpadildchphgaaGreatDoor
open Go.RowKit Go.Joins
theorem sh_words {n : Nat} {cs : List AV} (h : Sh Tryz.prog n 22 cs) : ∃ xs : List Nat, cs = [aW xs] ∧ Wd xs := by
  cases n with
  | zero => exact h.elim
  | succ n =>
    simp only [Sh, Tryz.underlying22] at h
    obtain ⟨rows, rfl, _, hr⟩ := h
    have key : ∀ rows : List (List AV), (∀ r ∈ rows, Sh Tryz.prog n 92 r ∧ r.length = Tryz.prog.cellsOf 92) → ∃ xs : List Nat, rows.length = xs.length ∧ rows.flatten = (xs.map fun x : Nat => AV.val (W32 x)) ∧ Wd xs := by
      intro rows
      induction rows with
      | nil => intro _; exact ⟨[], rfl, rfl, fun x hx => by cases hx⟩
      | cons r rows ih =>
        intro hr
        obtain ⟨xs, h1, h2, h3⟩ := ih (fun r hm => hr r (by simp [hm]))
        have h4 := (hr r (by simp)).1
        cases n with
        | zero => exact h4.elim
        | succ n =>
          simp only [Sh, Tryz.underlying92] at h4
          obtain ⟨i, rfl, hw⟩ := h4
          have hb := bounds_u32 hw
          refine ⟨i.toNat :: xs, by simp [h1], ?_, fun x hx => ?_⟩
          · rw [List.flatten_cons, h2, List.map_cons]
            have : AV.val (.int .u32 i) = AV.val (W32 i.toNat) := by unfold W32; congr 2; omega
            rw [this]; rfl
          · rcases List.mem_cons.1 hx with rfl | hx
            · omega
            · exact h3 x hx
    obtain ⟨xs, h1, h2, h3⟩ := key rows hr
    exact ⟨xs, by unfold aW; rw [h1, h2], h3⟩
set_option maxRecDepth 100000 in
theorem sh_int {n : Nat} {cs : List AV} (h : Sh Tryz.prog n 24 cs) : ∃ na xs, cs = aI na xs ∧ Wd xs := by
  cases n with
  | zero => exact h.elim
  | succ n =>
    simp only [Sh, Tryz.underlying24, List.forall_mem_cons, List.not_mem_nil, false_imp_iff, implies_true, and_true] at h
    obtain ⟨hl, h0, h1⟩ := h
    rw [show Tryz.prog.cellsOf 24 = 2 by kernel_rfl] at hl
    rw [show Tryz.prog.cellsOf 4 = 1 by kernel_rfl] at h0
    rw [show Tryz.prog.cellsOf 22 = 1 by kernel_rfl] at h1
    match cs, hl with
    | [c0, c1], _ =>
      obtain ⟨xs, e1, hw⟩ := sh_words h1
      cases n with
      | zero => exact h0.elim
      | succ n =>
        simp only [Sh, Tryz.underlying4] at h0
        obtain ⟨b, e0⟩ := h0
        simp at e0 e1
        subst e0 e1
        exact ⟨b, xs, rfl, hw⟩
set_option maxRecDepth 100000 in
theorem sh_rat {n : Nat} {cs : List AV} (h : Sh Tryz.prog n 26 cs) : ∃ na xs nb ys, cs = aI2 na xs nb ys ∧ Wd xs ∧ Wd ys := by
  cases n with
  | zero => exact h.elim
  | succ n =>
    simp only [Sh, Tryz.underlying26, List.forall_mem_cons, List.not_mem_nil, false_imp_iff, implies_true, and_true] at h
    obtain ⟨hl, h0, h1⟩ := h
    rw [show Tryz.prog.cellsOf 26 = 4 by kernel_rfl] at hl
    rw [show Tryz.prog.cellsOf 24 = 2 by kernel_rfl] at h0 h1
    match cs, hl with
    | [c0, c1, c2, c3], _ =>
      obtain ⟨na, xs, e0, w0⟩ := sh_int h0
      obtain ⟨nb, ys, e1, w1⟩ := sh_int h1
      refine ⟨na, xs, nb, ys, ?_, w0, w1⟩
      show [c0, c1, c2, c3] = aI na xs ++ aI nb ys
      rw [← e0, ← e1]
      rfl
theorem sh_string {n : Nat} {cs : List AV} (h : Sh Tryz.prog n 9 cs) : ∃ l : List UInt8, cs = [.val (vL l)] ∧ l.length ≤ 9223372036854775807 := by
  cases n with
  | zero => exact h.elim
  | succ n =>
    simp only [Sh, Tryz.underlying9] at h
    obtain ⟨s, rfl, hs⟩ := h
    obtain ⟨l, rfl⟩ : ∃ l, Bs l = s := ⟨_, Bs_of s⟩
    refine ⟨l, rfl, ?_⟩
    rw [Bs_size] at hs
    unfold maxLen at hs
    exact hs
theorem sh_i64 {n : Nat} {cs : List AV} (h : Sh Tryz.prog n 3 cs) : ∃ i : Int, cs = [.val (.int .i64 i)] ∧ -9223372036854775808 ≤ i ∧ i ≤ 9223372036854775807 := by
  cases n with
  | zero => exact h.elim
  | succ n =>
    simp only [Sh, Tryz.underlying3] at h
    obtain ⟨i, rfl, hw⟩ := h
    exact ⟨i, rfl, bounds_i64 hw⟩
end Go.Proofs.YtmpadildchphgaaGreatDoor
namespace Go.Proofs.YtmpadildchphgaaGreatDoor
open Go.RowKit
inductive Rx where
  | mk (op : Int) (na : Bool) (xs : List Nat) (nb : Bool) (ys : List Nat) (nm : List UInt8) (args : List Rx)
mutual
def aR : Rx → List AV
  | .mk op na xs nb ys nm args => [.val (.int .i64 op)] ++ aI2 na xs nb ys ++ [.val (vL nm), .sl args.length (aRs args)]
def aRs : List Rx → List AV
  | [] => []
  | x :: r => aR x ++ aRs r
end
def dR (x : Rx) : DV := .agg (aR x)
theorem aR_len (x : Rx) : (aR x).length = 7 := by
  obtain ⟨op, na, xs, nb, ys, nm, args⟩ := x
  rfl
theorem aRs_at : ∀ (l : List Rx) (i : Nat) (x : Rx), l[i]? = some x → ∀ (j : Nat) (a : AV), (aR x)[j]? = some a → (aRs l)[i * 7 + j]? = some a
  | [], i, x, h, _, _, _ => by simp at h
  | y :: l, 0, x, h, j, a, ha => by
    simp at h
    subst h
    simp only [aRs, Nat.zero_mul, Nat.zero_add]
    rw [List.getElem?_append_left (List.getElem?_eq_some_iff.1 ha).1]
    exact ha
  | y :: l, i + 1, x, h, j, a, ha => by
    simp only [aRs]
    rw [List.getElem?_append_right (by rw [aR_len, Nat.add_mul]; omega), aR_len, show (i + 1) * 7 + j - 7 = i * 7 + j by rw [Nat.add_mul]; omega]
    exact aRs_at l i x (by simpa using h) j a ha
inductive WdX : Rx → Prop
  | mk {op : Int} {na : Bool} {xs : List Nat} {nb : Bool} {ys : List Nat} {nm : List UInt8} {args : List Rx} : -9223372036854775808 ≤ op → op ≤ 9223372036854775807 → Wd xs → Wd ys → nm.length ≤ 9223372036854775807 → args.length ≤ 9223372036854775807 → (∀ x ∈ args, WdX x) → WdX (.mk op na xs nb ys nm args)
set_option maxRecDepth 100000 in
theorem sh_expr : ∀ (n : Nat) (cs : List AV), Sh Tryz.prog n 38 cs → ∃ x, cs = aR x ∧ WdX x := by
  intro n
  induction n using Nat.strongRecOn with
  | _ n ih =>
    intro cs h
    cases n with
    | zero => exact h.elim
    | succ n =>
      simp only [Sh, Tryz.underlying38, List.forall_mem_cons, List.not_mem_nil, false_imp_iff, implies_true, and_true] at h
      obtain ⟨hl, h0, h1, h2, h3⟩ := h
      rw [show Tryz.prog.cellsOf 38 = 7 by kernel_rfl] at hl
      rw [show Tryz.prog.cellsOf 3 = 1 by kernel_rfl] at h0
      rw [show Tryz.prog.cellsOf 26 = 4 by kernel_rfl] at h1
      rw [show Tryz.prog.cellsOf 9 = 1 by kernel_rfl] at h2
      rw [show Tryz.prog.cellsOf 36 = 1 by kernel_rfl] at h3
      match cs, hl with
      | [c0, c1, c2, c3, c4, c5, c6], _ =>
        obtain ⟨op, e0, b0, b1⟩ := sh_i64 h0
        obtain ⟨na, xs, nb, ys, e1, w0, w1⟩ := sh_rat h1
        obtain ⟨nm, e2, hn⟩ := sh_string h2
        have e0 : [c0] = [.val (.int .i64 op)] := e0
        have e1 : [c1, c2, c3, c4] = aI2 na xs nb ys := e1
        have e2 : [c5] = [.val (vL nm)] := e2
        have h3 : Sh Tryz.prog n 36 [c6] := h3
        cases n with
        | zero => exact h3.elim
        | succ n =>
          simp only [Sh, Tryz.underlying36] at h3
          obtain ⟨rows, e3, hm, hr⟩ := h3
          have key : ∀ rows : List (List AV), (∀ r ∈ rows, Sh Tryz.prog n 38 r ∧ r.length = Tryz.prog.cellsOf 38) → ∃ l : List Rx, rows.length = l.length ∧ rows.flatten = aRs l ∧ ∀ x ∈ l, WdX x := by
            intro rows
            induction rows with
            | nil => intro _; exact ⟨[], rfl, rfl, fun x hx => by cases hx⟩
            | cons r rows ihr =>
              intro hr
              obtain ⟨l, k1, k2, k3⟩ := ihr (fun r hm => hr r (by simp [hm]))
              obtain ⟨x, k4, k5⟩ := ih n (by omega) r (hr r (by simp)).1
              refine ⟨x :: l, by simp [k1], by rw [List.flatten_cons, k2, k4]; rfl, fun y hy => ?_⟩
              rcases List.mem_cons.1 hy with rfl | hy
              · exact k5
              · exact k3 y hy
          obtain ⟨l, k1, k2, k3⟩ := key rows hr
          refine ⟨.mk op na xs nb ys nm l, ?_, .mk b0 b1 w0 w1 hn (by unfold maxLen at hm; omega) k3⟩
          show [c0, c1, c2, c3, c4, c5, c6] = [.val (.int .i64 op)] ++ aI2 na xs nb ys ++ [.val (vL nm), .sl l.length (aRs l)]
          simp at e0 e2 e3
          rw [← e1, e0, e2, e3, k1, k2]
          rfl
end Go.Proofs.YtmpadildchphgaaGreatDoor
namespace Go.Proofs.YtmpadildchphgaaGreatDoor
open Go.RowKit
theorem below_grow (w : World) (k : Nat) (os : Array Obj) : Below w.heap.size w (Go.Sort.grow (w.drewN k) os) := by
  refine ⟨rfl, rfl, rfl, ?_, fun b hb => ?_⟩
  · show w.heap.size ≤ (w.heap ++ os).size
    simp
  · show (w.heap ++ os)[b]? = w.heap[b]?
    rw [Array.getElem?_append_left hb]
theorem itoa_fmt (p : Int) : Lib.itoa p = fmt p := by
  have hdd : ∀ n : Nat, n ≠ 0 → Lib.decDigits n = dec n := by
    intro n
    induction n using Nat.strongRecOn with
    | _ n ih =>
      intro h0
      rw [decDigits_dd, dec_pos h0]
      by_cases h : n < 10
      · rw [dd_small h, Nat.div_eq_of_lt h, dec_zero, Nat.mod_eq_of_lt h]; rfl
      · rw [dd_big (by omega), ← decDigits_dd, ih (n / 10) (by omega) (by omega)]
  unfold Lib.itoa fmt
  by_cases h : p < 0
  · rw [if_pos h, if_neg (by omega), if_pos h, hdd _ (by omega)]
    rfl
  · rw [if_neg h]
    by_cases h0 : p = 0
    · subst h0
      rw [if_pos rfl, show (0 : Int).toNat = 0 from rfl, decDigits_dd, dd_small (by decide)]
      rfl
    · rw [if_neg h0, if_neg h, show p.toNat = p.natAbs by omega, hdd _ (by omega)]
      rfl
theorem ok_is_Itoa {p : Int} (h0 : -9223372036854775808 ≤ p) (h1 : p ≤ 9223372036854775807) : CallOK Tryz.prog 90 [dN .i64 p] (.one (dL (fmt p))) := by
  refine ⟨enter_of Tryz.func90 rfl rfl, fun S w vs hS hv => ?_⟩
  match vs, hv with
  | [v], ⟨h, _⟩ =>
    obtain rfl := av_val h
    refine (Tryz.internal_strconv_Itoa p h0 h1 w hS.1.here).mono ?_
    rintro e w' ⟨rfl, k, os, rfl⟩
    refine ⟨_, rfl, ?_, below_grow _ _ _⟩
    rw [itoa_fmt]
    exact AV.M.val rfl
theorem ok_Itoa {p : Int} (h0 : -9223372036854775808 ≤ p) (h1 : p ≤ 9223372036854775807) : CallOK Tryz.prog 61 [dN .i64 p] (.one (dL (fmt p))) := by
  refine callOK_of TT_ok mixT Tryz.func61 rfl rfl (Nat.le_of_ble_eq_true rfl) ?_
  repeat (first | refine r_op rfl rfl rfl rfl ?_ | refine r_skip rfl rfl rfl ?_ | refine .done ?_ | refine r_seq (T := TT) ?_ | refine r_region (T := TT) rfl ?_ | refine r_block (T := TT) ?_ | refine r_then (T := TT) rfl ?_ | refine r_else (T := TT) rfl ?_)
  refine r_call (ok_is_Itoa h0 h1) rfl rfl rfl rfl rfl rfl rfl ?_
  repeat (first | refine r_op rfl rfl rfl rfl ?_ | refine r_skip rfl rfl rfl ?_ | refine .done ?_ | refine r_seq (T := TT) ?_ | refine r_region (T := TT) rfl ?_ | refine r_block (T := TT) ?_ | refine r_then (T := TT) rfl ?_ | refine r_else (T := TT) rfl ?_)
  exact r_fin (T := TT) rfl rfl
theorem fmtQt_len {a : Rat} {p : Int} {k : Nat} (h : SzQ k a) (hp : inP p = true) : (fmtQ a).length ≤ 20 * k + 5 ∧ (fmt p).length ≤ 2 := by
  refine ⟨fmtQ_len h, ?_⟩
  have hdd : ∀ n : Nat, n < 10 → (dec n).length ≤ 1 := fun n hn => by
    by_cases h0 : n = 0
    · subst h0; rw [dec_zero]; decide
    · rw [dec_pos h0, Nat.div_eq_of_lt hn, dec_zero]; simp
  simp only [inP, Bool.and_eq_true, decide_eq_true_eq] at hp
  unfold fmt
  split
  · decide
  · rw [List.length_append]
    have := hdd p.natAbs (by omega)
    split
    · simp; omega
    · simp; omega
set_option maxHeartbeats 1000000 in
theorem ok_u_Format {k : Nat} {a : Rat} {p : Int} (h : SzQ k a) (hk : k ≤ 1000) (hp : inP p = true) {l : List UInt8} (hl : fmtQt a p = l) : CallOK Tryz.prog 24 [dQt a p] (.one (dL l)) := by
  obtain ⟨l1, l2⟩ := fmtQt_len h hp
  have hb : -4 ≤ p ∧ p ≤ 4 := by simpa [inP] using hp
  unfold fmtQt at hl
  by_cases h0 : p = 0
  · rw [if_pos h0] at hl
    subst h0
    refine callOK_of TT_ok mixT Tryz.func24 rfl rfl (Nat.le_of_ble_eq_true rfl) ?_
    repeat (first | refine r_op rfl rfl rfl rfl ?_ | refine r_skip rfl rfl rfl ?_ | refine .done ?_ | refine r_seq (T := TT) ?_ | refine r_region (T := TT) rfl ?_ | refine r_block (T := TT) ?_ | refine r_then (T := TT) rfl ?_ | refine r_else (T := TT) rfl ?_)
    refine r_call (ok_q_Format h hk hl) rfl rfl rfl rfl rfl rfl rfl ?_
    repeat (first | refine r_op rfl rfl rfl rfl ?_ | refine r_skip rfl rfl rfl ?_ | refine .done ?_ | refine r_seq (T := TT) ?_ | refine r_region (T := TT) rfl ?_ | refine r_block (T := TT) ?_ | refine r_then (T := TT) rfl ?_ | refine r_else (T := TT) rfl ?_)
    exact r_fin (T := TT) rfl rfl
  · rw [if_neg h0] at hl
    by_cases h1 : p = 1
    · rw [if_pos h1] at hl
      subst h1
      refine callOK_of TT_ok mixT Tryz.func24 rfl rfl (Nat.le_of_ble_eq_true rfl) ?_
      repeat (first | refine r_op rfl rfl rfl rfl ?_ | refine r_skip rfl rfl rfl ?_ | refine .done ?_ | refine r_seq (T := TT) ?_ | refine r_region (T := TT) rfl ?_ | refine r_block (T := TT) ?_ | refine r_then (T := TT) rfl ?_ | refine r_else (T := TT) rfl ?_)
      refine r_call (ok_q_Format h hk rfl) rfl rfl rfl rfl rfl rfl rfl ?_
      repeat (first | refine r_op rfl rfl rfl rfl ?_ | refine r_skip rfl rfl rfl ?_ | refine .done ?_)
      repeat refine r_seq (T := TT) ?_
      refine r_region (T := TT) rfl ?_
      repeat (first | refine r_op rfl rfl rfl rfl ?_ | refine r_skip rfl rfl rfl ?_)
      try refine .done ?_
      repeat (first | refine r_seq (T := TT) ?_ | refine r_block (T := TT) ?_)
      refine r_region (T := TT) rfl ?_
      repeat (first | refine r_op rfl rfl rfl rfl ?_ | refine r_skip rfl rfl rfl ?_ | refine .done ?_)
      refine r_else (T := TT) rfl ?_
      repeat (first | refine r_seq (T := TT) ?_ | refine r_block (T := TT) ?_)
      refine r_region (T := TT) rfl ?_
      repeat (first | refine r_op rfl rfl rfl rfl ?_ | refine r_skip rfl rfl rfl ?_ | refine .done ?_)
      refine r_then (T := TT) rfl ?_
      repeat (first | refine r_seq (T := TT) ?_ | refine r_block (T := TT) ?_)
      refine r_region (T := TT) rfl ?_
      iterate 1 (first | refine r_op rfl rfl rfl rfl ?_ | refine r_skip rfl rfl rfl ?_)
      refine r_bin rfl rfl rfl rfl rfl rfl rfl (binV_cat (a := fmtQ a) (b := [32, 109, 109]) (by simp; omega)) ?_
      rw [hl]
      repeat (first | refine r_op rfl rfl rfl rfl ?_ | refine r_skip rfl rfl rfl ?_ | refine .done ?_ | refine r_seq (T := TT) ?_ | refine r_region (T := TT) rfl ?_ | refine r_block (T := TT) ?_ | refine r_then (T := TT) rfl ?_ | refine r_else (T := TT) rfl ?_)
      exact r_fin (T := TT) rfl rfl
    · rw [if_neg h1] at hl
      refine callOK_of TT_ok mixT Tryz.func24 rfl rfl (Nat.le_of_ble_eq_true rfl) ?_
      repeat (first | refine r_op rfl rfl rfl rfl ?_ | refine r_skip rfl rfl rfl ?_ | refine .done ?_ | refine r_seq (T := TT) ?_ | refine r_region (T := TT) rfl ?_ | refine r_block (T := TT) ?_ | refine r_then (T := TT) rfl ?_ | refine r_else (T := TT) rfl ?_)
      refine r_call (ok_q_Format h hk rfl) rfl rfl rfl rfl rfl rfl rfl ?_
      repeat (first | refine r_op rfl rfl rfl rfl ?_ | refine r_skip rfl rfl rfl ?_ | refine .done ?_)
      repeat refine r_seq (T := TT) ?_
      refine r_region (T := TT) rfl ?_
      repeat (first | refine r_op rfl rfl rfl rfl ?_ | refine r_skip rfl rfl rfl ?_)
      try refine .done ?_
      repeat (first | refine r_seq (T := TT) ?_ | refine r_block (T := TT) ?_)
      refine r_region (T := TT) rfl ?_
      refine r_eq (v' := .bool false) rfl rfl rfl rfl ?_ ?_
      · exact congrArg Value.bool ((by simpa using h0))
      repeat (first | refine r_op rfl rfl rfl rfl ?_ | refine r_skip rfl rfl rfl ?_ | refine .done ?_)
      refine r_else (T := TT) rfl ?_
      repeat (first | refine r_seq (T := TT) ?_ | refine r_block (T := TT) ?_)
      refine r_region (T := TT) rfl ?_
      refine r_eq (v' := .bool false) rfl rfl rfl rfl ?_ ?_
      · exact congrArg Value.bool ((by simpa using h1))
      repeat (first | refine r_op rfl rfl rfl rfl ?_ | refine r_skip rfl rfl rfl ?_ | refine .done ?_)
      refine r_else (T := TT) rfl ?_
      repeat (first | refine r_seq (T := TT) ?_ | refine r_block (T := TT) ?_)
      refine r_region (T := TT) rfl ?_
      iterate 1 (first | refine r_op rfl rfl rfl rfl ?_ | refine r_skip rfl rfl rfl ?_)
      refine r_bin rfl rfl rfl rfl rfl rfl rfl (binV_cat (a := fmtQ a) (b := [32, 109, 109, 94]) (by simp; omega)) ?_
      iterate 2 (first | refine r_op rfl rfl rfl rfl ?_ | refine r_skip rfl rfl rfl ?_)
      refine r_call (ok_Itoa (p := p) (by omega) (by omega)) rfl rfl rfl rfl rfl rfl rfl ?_
      refine r_bin rfl rfl rfl rfl rfl rfl rfl (binV_cat (a := fmtQ a ++ [32, 109, 109, 94]) (b := fmt p) (by simp; omega)) ?_
      rw [hl]
      repeat (first | refine r_op rfl rfl rfl rfl ?_ | refine r_skip rfl rfl rfl ?_ | refine .done ?_ | refine r_seq (T := TT) ?_ | refine r_region (T := TT) rfl ?_ | refine r_block (T := TT) ?_ | refine r_then (T := TT) rfl ?_ | refine r_else (T := TT) rfl ?_)
      exact r_fin (T := TT) rfl rfl
end Go.Proofs.YtmpadildchphgaaGreatDoor
namespace Go.Proofs.YtmpadildchphgaaGreatDoor
open Go.RowKit
inductive B4 where
  | add
  | sub
  | mul
  | div
def B4.code : B4 → Int
  | .add => 4
  | .sub => 5
  | .mul => 6
  | .div => 7
inductive Ex where
  | num (v : Rat) (u : List UInt8)
  | nam (s : List UInt8)
  | neg (a : Ex)
  | bin (k : B4) (a b : Ex)
def rx : Ex → Rx
  | .num v u => .mk 1 (decide (v.num < 0)) (digs v.num.natAbs) (decide ((v.den : Int) < 0)) (digs (v.den : Int).natAbs) u []
  | .nam s => .mk 2 false [] false [] s []
  | .neg a => .mk 3 false [] false [] [] [rx a]
  | .bin k a b => .mk k.code false [] false [] [] [rx a, rx b]
def aE (e : Ex) : List AV := aR (rx e)
def dE (e : Ex) : DV := .agg (aE e)
theorem aE_neg (a : Ex) : aE (.neg a) = [.val (.int .i64 3)] ++ aQ0 ++ [.val (vL []), .sl 1 (aE a)] := by
  show [.val (.int .i64 3)] ++ aI2 false [] false [] ++ [.val (vL []), .sl 1 (aR (rx a) ++ [])] = _
  rw [List.append_nil]
  rfl
theorem aE_bin (k : B4) (a b : Ex) : aE (.bin k a b) = [.val (.int .i64 k.code)] ++ aQ0 ++ [.val (vL []), .sl 2 (aE a ++ aE b)] := by
  show [.val (.int .i64 k.code)] ++ aI2 false [] false [] ++ [.val (vL []), .sl 2 (aR (rx a) ++ (aR (rx b) ++ []))] = _
  rw [List.append_nil]
  rfl
abbrev EL := List (List UInt8 × (Rat × Int))
def aVl : EL → List AV
  | [] => []
  | x :: r => aQt x.2.1 x.2.2 ++ aVl r
def dNm (l : EL) : DV := .leaf (.sl l.length (l.map fun x => AV.val (vL x.1)))
def dVl (l : EL) : DV := .leaf (.sl l.length (aVl l))
def envF (l : EL) (s : List UInt8) : Option (Rat × Int) := match l with
  | [] => none
  | x :: r => if x.1 = s then some x.2 else envF r s
theorem nm_at {l : EL} {i : Nat} {x : List UInt8 × (Rat × Int)} (h : l[i]? = some x) : ∀ (j : Nat) (a : AV), [AV.val (vL x.1)][j]? = some a → (l.map fun x => AV.val (vL x.1))[i * 1 + j]? = some a := by
  intro j a hj
  match j, hj with
  | 0, hj => rw [Nat.mul_one, Nat.add_zero, List.getElem?_map, h]; exact hj
theorem vl_at : ∀ {l : EL} {i : Nat} {x : List UInt8 × (Rat × Int)}, l[i]? = some x → ∀ (j : Nat) (a : AV), (aQt x.2.1 x.2.2)[j]? = some a → (aVl l)[i * 5 + j]? = some a
  | [], i, x, h, _, _, _ => by simp at h
  | y :: l, 0, x, h, j, a, ha => by
    simp at h
    subst h
    simp only [aVl, Nat.zero_mul, Nat.zero_add]
    rw [List.getElem?_append_left (List.getElem?_eq_some_iff.1 ha).1]
    exact ha
  | y :: l, i + 1, x, h, j, a, ha => by
    simp only [aVl]
    have h5 : (aQt y.2.1 y.2.2).length = 5 := rfl
    rw [List.getElem?_append_right (by rw [h5, Nat.add_mul]; omega), h5, show (i + 1) * 5 + j - 5 = i * 5 + j by rw [Nat.add_mul]; omega]
    exact vl_at (l := l) (by simpa using h) j a ha
def Sorted (l : EL) : Prop := ∀ (i j : Nat) (a b : List UInt8 × (Rat × Int)), i < j → l[i]? = some a → l[j]? = some b → Op.bytesLess a.1 b.1 = true
theorem bl_irr : ∀ a : List UInt8, Op.bytesLess a a = false
  | [] => rfl
  | x :: a => by simp [Op.bytesLess, bl_irr a]
theorem bl_trans : ∀ {a b c : List UInt8}, Op.bytesLess a b = true → Op.bytesLess b c = true → Op.bytesLess a c = true
  | _, _, [], _, h => by simp [Op.bytesLess] at h
  | [], _, _ :: _, _, _ => rfl
  | _ :: _, [], _ :: _, h, _ => by simp [Op.bytesLess] at h
  | x :: a, y :: b, z :: c, h, k => by
    simp only [Op.bytesLess, Bool.or_eq_true, Bool.and_eq_true, decide_eq_true_eq, beq_iff_eq] at h k ⊢
    rcases h with h | ⟨rfl, h⟩
    · rcases k with k | ⟨rfl, k⟩
      · exact .inl (UInt8.lt_trans h k)
      · exact .inl h
    · rcases k with k | ⟨rfl, k⟩
      · exact .inl k
      · exact .inr ⟨rfl, bl_trans h k⟩
theorem binV_lssS {t : TypeId} {x y : Operand} {a b : List UInt8} : binV .lss t x y (vL a) (vL b) = some (.bool (Op.bytesLess a b)) := by
  show some (Value.bool (Op.bytesLess (Bs a).toList (Bs b).toList)) = _
  rw [Bs_toList, Bs_toList]
theorem ok_cmp_isNaN (a : List UInt8) : CallOK Tryz.prog 117 [dL a] (.one (dB false)) := by
  refine callOK_of TT_ok mixT Tryz.func117 rfl rfl (Nat.le_of_ble_eq_true rfl) ?_
  repeat refine r_seq (T := TT) ?_
  refine r_region (T := TT) rfl ?_
  repeat (first | refine r_op rfl rfl rfl rfl ?_ | refine r_skip rfl rfl rfl ?_)
  try refine .done ?_
  repeat refine r_seq (T := TT) ?_
  refine r_region (T := TT) rfl ?_
  iterate 2 (first | refine r_op rfl rfl rfl rfl ?_ | refine r_skip rfl rfl rfl ?_)
  refine r_bin rfl rfl rfl rfl rfl rfl rfl (binV_neF (a := a) (b := a) rfl) ?_
  repeat (first | refine r_op rfl rfl rfl rfl ?_ | refine r_skip rfl rfl rfl ?_ | refine .done ?_ | refine r_seq (T := TT) ?_ | refine r_region (T := TT) rfl ?_ | refine r_block (T := TT) ?_ | refine r_then (T := TT) rfl ?_ | refine r_else (T := TT) rfl ?_)
  exact r_fin (T := TT) rfl rfl
theorem ok_sl_isNaN (a : List UInt8) : CallOK Tryz.prog 86 [dL a] (.one (dB false)) := by
  refine callOK_of TT_ok mixT Tryz.func86 rfl rfl (Nat.le_of_ble_eq_true rfl) ?_
  repeat refine r_seq (T := TT) ?_
  refine r_region (T := TT) rfl ?_
  repeat (first | refine r_op rfl rfl rfl rfl ?_ | refine r_skip rfl rfl rfl ?_)
  try refine .done ?_
  repeat refine r_seq (T := TT) ?_
  refine r_region (T := TT) rfl ?_
  iterate 2 (first | refine r_op rfl rfl rfl rfl ?_ | refine r_skip rfl rfl rfl ?_)
  refine r_bin rfl rfl rfl rfl rfl rfl rfl (binV_neF (a := a) (b := a) rfl) ?_
  repeat (first | refine r_op rfl rfl rfl rfl ?_ | refine r_skip rfl rfl rfl ?_ | refine .done ?_ | refine r_seq (T := TT) ?_ | refine r_region (T := TT) rfl ?_ | refine r_block (T := TT) ?_ | refine r_then (T := TT) rfl ?_ | refine r_else (T := TT) rfl ?_)
  exact r_fin (T := TT) rfl rfl
theorem ok_Less (a b : List UInt8) : CallOK Tryz.prog 85 [dL a, dL b] (.one (dB (Op.bytesLess a b))) := by
  refine callOK_of TT_ok mixT Tryz.func85 rfl rfl (Nat.le_of_ble_eq_true rfl) ?_
  repeat refine r_seq (T := TT) ?_
  refine r_region (T := TT) rfl ?_
  repeat (first | refine r_op rfl rfl rfl rfl ?_ | refine r_skip rfl rfl rfl ?_)
  try refine .done ?_
  repeat refine r_seq (T := TT) ?_
  refine r_region (T := TT) rfl ?_
  iterate 1 (first | refine r_op rfl rfl rfl rfl ?_ | refine r_skip rfl rfl rfl ?_)
  refine r_call (ok_cmp_isNaN a) rfl rfl rfl rfl rfl rfl rfl ?_
  iterate 8 (first | refine r_op rfl rfl rfl rfl ?_ | refine r_skip rfl rfl rfl ?_)
  refine r_bin rfl rfl rfl rfl rfl rfl rfl (binV_lssS (a := a) (b := b)) ?_
  repeat (first | refine r_op rfl rfl rfl rfl ?_ | refine r_skip rfl rfl rfl ?_ | refine .done ?_ | refine r_seq (T := TT) ?_ | refine r_region (T := TT) rfl ?_ | refine r_block (T := TT) ?_ | refine r_then (T := TT) rfl ?_ | refine r_else (T := TT) rfl ?_)
  exact r_fin (T := TT) rfl rfl
set_option maxHeartbeats 1000000 in
theorem bsearch (l : EL) (hs : Sorted l) (hl : l.length ≤ 1000000) (s : List UInt8) : ∃ (i : Nat) (b : Bool), CallOK Tryz.prog 57 [dNm l, dL s] (.tup [dN .i64 i, dB b]) ∧
    (b = true → ∃ x, l[i]? = some x ∧ x.1 = s) ∧ (b = false → ∀ x ∈ l, x.1 ≠ s) := by
  obtain ⟨p, hp1, hp2, hp3⟩ : ∃ p, p ≤ l.length ∧ (∀ (q : Nat) x, q < p → l[q]? = some x → Op.bytesLess x.1 s = true) ∧ (∀ (q : Nat) x, p ≤ q → l[q]? = some x → Op.bytesLess x.1 s = false) := by
    have : ∀ k, k ≤ l.length → ∃ p, p ≤ k ∧ (∀ (q : Nat) x, q < p → l[q]? = some x → Op.bytesLess x.1 s = true) ∧ (∀ (q : Nat) x, p ≤ q → q < k → l[q]? = some x → Op.bytesLess x.1 s = false) := by
      intro k
      induction k with
      | zero => intro _; exact ⟨0, Nat.le_refl _, fun q x h => absurd h (Nat.not_lt_zero _), fun q x _ h => absurd h (Nat.not_lt_zero _)⟩
      | succ k ih =>
        intro hk
        obtain ⟨p, h1, h2, h3⟩ := ih (by omega)
        have hx : l[k]? = some (l[k]'(by omega)) := by simp
        by_cases hpk : p = k
        · cases hb : Op.bytesLess (l[k]'(by omega)).1 s
          · exact ⟨k, by omega, fun q x hq => h2 q x (by omega), fun q x h4 h5 h6 => by
              obtain rfl : q = k := by omega
              rw [hx] at h6; cases h6; exact hb⟩
          · exact ⟨k + 1, by omega, fun q x hq h6 => by
              by_cases e : q = k
              · subst e; rw [hx] at h6; cases h6; exact hb
              · exact h2 q x (by omega) h6, fun q x h4 h5 => by omega⟩
        · refine ⟨p, by omega, h2, fun q x h4 h5 h6 => ?_⟩
          by_cases e : q = k
          · subst e
            have hpx : l[p]? = some (l[p]'(by omega)) := by simp
            have h7 := h3 p _ (Nat.le_refl _) (by omega) hpx
            cases hb : Op.bytesLess x.1 s
            · rfl
            · have h8 := hs p q _ _ (by omega) hpx h6
              rw [bl_trans h8 hb] at h7
              cases h7
          · exact h3 q x h4 (by omega) h6
    obtain ⟨p, h1, h2, h3⟩ := this l.length (Nat.le_refl _)
    exact ⟨p, h1, h2, fun q x h4 h5 => h3 q x h4 (List.getElem?_eq_some_iff.1 h5).1 h5⟩
  have done : ∀ b, (∀ x, l[p]? = some x → decide (x.1 = s) = b) → (l[p]? = none → b = false) → CallOK Tryz.prog 57 [dNm l, dL s] (.tup [dN .i64 p, dB b]) := by
    intro b hb hb'
    refine callOK_of TT_ok mixT Tryz.func57 rfl rfl (Nat.le_of_ble_eq_true rfl) ?_
    repeat (first | refine r_op rfl rfl rfl rfl ?_ | refine r_skip rfl rfl rfl ?_ | refine .done ?_ | refine r_seq (T := TT) ?_ | refine r_region (T := TT) rfl ?_ | refine r_block (T := TT) ?_ | refine r_then (T := TT) rfl ?_ | refine r_else (T := TT) rfl ?_)
    refine r_loop (Nat × Nat) (fun x => x.1 ≤ p ∧ p ≤ x.2 ∧ x.2 ≤ l.length) (fun x => ⟨[(0, .d (dNm l)), (1, .d (dL s)), (4, .d (dN .i64 0)), (5, .d (dB false)), (6, .d (dN .i64 l.length)), (7, .d (dN .i64 x.1)), (8, .d (dN .i64 x.2))], []⟩) (fun x => x.2 - x.1) (0, l.length) ⟨Nat.zero_le _, hp1, Nat.le_refl _⟩
      (weak ⟨rfl, rfl, rfl, rfl, rfl, rfl, rfl, trivial⟩ trivial rfl) ?_
    rintro ⟨i, j⟩ ⟨h1, h2, h3⟩
    dsimp only at h1 h2 h3 ⊢
    repeat refine r_seq (T := TT) ?_
    refine r_region (T := TT) rfl ?_
    iterate 2 (first | refine r_op rfl rfl rfl rfl ?_ | refine r_skip rfl rfl rfl ?_)
    by_cases hij : i < j
    · refine r_eq (v' := .bool true) rfl rfl rfl rfl ?_ ?_
      · exact congrArg Value.bool (decide_eq_true (by omega))
      repeat (first | refine r_op rfl rfl rfl rfl ?_ | refine r_skip rfl rfl rfl ?_ | refine .done ?_)
      refine r_seq (T := TT) ?_
      refine r_then (T := TT) rfl ?_
      refine r_skipc ?_
      repeat (first | refine r_seq (T := TT) ?_ | refine r_block (T := TT) ?_)
      refine r_region (T := TT) rfl ?_
      iterate 2 (first | refine r_op rfl rfl rfl rfl ?_ | refine r_skip rfl rfl rfl ?_)
      refine r_eq (v' := .int .i64 ((i + j : Nat))) rfl rfl rfl rfl ?_ ?_
      · exact congrArg (Value.int .i64) (by rw [IntWalk.i64_in _ (by omega)]; omega)
      refine r_eq (v' := .int .u64 ((i + j : Nat))) rfl rfl rfl rfl ?_ ?_
      · exact congrArg (Value.int .u64) (by show IntKind.u64.wrap ((i + j : Nat) : Int) = _; rw [IntWalk.u64_in _ (by omega)])
      refine r_eq (v' := .int .u64 (((i + j) / 2 : Nat))) rfl rfl rfl rfl ?_ ?_
      · exact congrArg (Value.int .u64) (by show Int.fdiv ((i + j : Nat) : Int) 2 = _; rw [Int.fdiv_eq_ediv_of_nonneg _ (by decide)]; rfl)
      refine r_eq (v' := .int .i64 (((i + j) / 2 : Nat))) rfl rfl rfl rfl ?_ ?_
      · exact congrArg (Value.int .i64) (by show IntKind.i64.wrap (((i + j) / 2 : Nat) : Int) = _; rw [IntWalk.i64_in _ (by omega)])
      have hm : (i + j) / 2 < l.length := by omega
      refine Exists.elim (Exists.intro _ rfl : ∃ m, (i + j) / 2 = m) fun m hme => ?_
      rw [hme] at hm ⊢
      have hx : l[m]? = some l[m] := by simp [hm]
      repeat (first | refine r_op rfl rfl rfl rfl ?_ | refine r_skip rfl rfl rfl ?_ | refine .done ?_)
      repeat refine r_seq (T := TT) ?_
      refine r_region (T := TT) rfl ?_
      iterate 2 (first | refine r_op rfl rfl rfl rfl ?_ | refine r_skip rfl rfl rfl ?_)
      refine r_idx (i := m) (cs' := [.val (vL l[m].1)]) hm (nm_at hx) (by simp) rfl rfl rfl rfl rfl rfl rfl rfl ?_
      iterate 2 (first | refine r_op rfl rfl rfl rfl ?_ | refine r_skip rfl rfl rfl ?_)
      refine r_call (ok_Less l[m].1 s) rfl rfl rfl rfl rfl rfl rfl ?_
      repeat (first | refine r_op rfl rfl rfl rfl ?_ | refine r_skip rfl rfl rfl ?_ | refine .done ?_)
      cases hb2 : Op.bytesLess l[m].1 s
      · repeat (first | refine r_op rfl rfl rfl rfl ?_ | refine r_skip rfl rfl rfl ?_ | refine .done ?_ | refine r_seq (T := TT) ?_ | refine r_region (T := TT) rfl ?_ | refine r_block (T := TT) ?_ | refine r_then (T := TT) rfl ?_ | refine r_else (T := TT) rfl ?_)
        have hpm : p ≤ m := by
          rcases Nat.lt_or_ge m p with h | h
          · have := hp2 m _ h hx; rw [hb2] at this; cases this
          · exact h
        exact ⟨(i, m), ⟨h1, hpm, by dsimp only; omega⟩, by dsimp only; omega, weak ⟨rfl, rfl, rfl, rfl, rfl, rfl, rfl, trivial⟩ trivial rfl⟩
      · repeat (first | refine r_op rfl rfl rfl rfl ?_ | refine r_skip rfl rfl rfl ?_ | refine .done ?_ | refine r_seq (T := TT) ?_ | refine r_region (T := TT) rfl ?_ | refine r_block (T := TT) ?_ | refine r_then (T := TT) rfl ?_ | refine r_else (T := TT) rfl ?_)
        have hmp : m < p := by
          rcases Nat.lt_or_ge m p with h | h
          · exact h
          · have := hp3 m _ h hx; rw [hb2] at this; cases this
        exact ⟨(m + 1, j), ⟨hmp, h2, h3⟩, by dsimp only; omega, weak ⟨rfl, rfl, rfl, rfl, rfl, tv_i64 (by omega) (by omega), rfl, trivial⟩ trivial rfl⟩
    · have e1 : i = p := by omega
      have e2 : j = p := by omega
      subst e2
      subst e1
      refine r_eq (v' := .bool false) rfl rfl rfl rfl ?_ ?_
      · exact congrArg Value.bool (decide_eq_false (by omega))
      repeat (first | refine r_op rfl rfl rfl rfl ?_ | refine r_skip rfl rfl rfl ?_ | refine .done ?_)
      refine r_seq (T := TT) ?_
      refine r_else (T := TT) rfl ?_
      refine r_exit ?_
      repeat refine r_seq (T := TT) ?_
      refine r_region (T := TT) rfl ?_
      iterate 3 (first | refine r_op rfl rfl rfl rfl ?_ | refine r_skip rfl rfl rfl ?_)
      by_cases hil : i < l.length
      · have hx : l[i]? = some l[i] := by simp [hil]
        refine r_eq (v' := .bool true) rfl rfl rfl rfl ?_ ?_
        · exact congrArg Value.bool (decide_eq_true (by omega))
        iterate 3 (first | refine r_op rfl rfl rfl rfl ?_ | refine r_skip rfl rfl rfl ?_)
        refine r_idx (i := i) (cs' := [.val (vL l[i].1)]) hil (nm_at hx) (by simp) rfl rfl rfl rfl rfl rfl rfl rfl ?_
        iterate 2 (first | refine r_op rfl rfl rfl rfl ?_ | refine r_skip rfl rfl rfl ?_)
        have hb0 := hb _ hx
        by_cases e : l[i].1 = s
        · rw [decide_eq_true e] at hb0
          subst hb0
          refine r_bin rfl rfl rfl rfl rfl rfl rfl (binV_eqT (a := l[i].1) (b := s) e) ?_
          repeat (first | refine r_op rfl rfl rfl rfl ?_ | refine r_skip rfl rfl rfl ?_ | refine .done ?_ | refine r_seq (T := TT) ?_ | refine r_region (T := TT) rfl ?_ | refine r_block (T := TT) ?_ | refine r_then (T := TT) rfl ?_ | refine r_else (T := TT) rfl ?_)
          exact r_fin (T := TT) rfl rfl
        · rw [decide_eq_false e] at hb0
          subst hb0
          refine r_bin rfl rfl rfl rfl rfl rfl rfl (binV_eqF (a := l[i].1) (b := s) e) ?_
          iterate 3 (first | refine r_op rfl rfl rfl rfl ?_ | refine r_skip rfl rfl rfl ?_)
          refine r_idx (i := i) (cs' := [.val (vL l[i].1)]) hil (nm_at hx) (by simp) rfl rfl rfl rfl rfl rfl rfl rfl ?_
          iterate 1 (first | refine r_op rfl rfl rfl rfl ?_ | refine r_skip rfl rfl rfl ?_)
          refine r_call (ok_sl_isNaN l[i].1) rfl rfl rfl rfl rfl rfl rfl ?_
          repeat (first | refine r_op rfl rfl rfl rfl ?_ | refine r_skip rfl rfl rfl ?_ | refine .done ?_ | refine r_seq (T := TT) ?_ | refine r_region (T := TT) rfl ?_ | refine r_block (T := TT) ?_ | refine r_then (T := TT) rfl ?_ | refine r_else (T := TT) rfl ?_)
          exact r_fin (T := TT) rfl rfl
      · have hn := hb' (List.getElem?_eq_none (by omega))
        subst hn
        refine r_eq (v' := .bool false) rfl rfl rfl rfl ?_ ?_
        · exact congrArg Value.bool (decide_eq_false (by omega))
        repeat (first | refine r_op rfl rfl rfl rfl ?_ | refine r_skip rfl rfl rfl ?_ | refine .done ?_ | refine r_seq (T := TT) ?_ | refine r_region (T := TT) rfl ?_ | refine r_block (T := TT) ?_ | refine r_then (T := TT) rfl ?_ | refine r_else (T := TT) rfl ?_)
        exact r_fin (T := TT) rfl rfl
  cases hx : l[p]? with
  | none =>
    refine ⟨p, false, done false (fun x h => by rw [hx] at h; cases h) (fun _ => rfl), fun h => (by cases h), fun _ x hm e => ?_⟩
    obtain ⟨q, hq⟩ := List.getElem?_of_mem hm
    have h1 := List.getElem?_eq_none_iff.1 hx
    have h2 := (List.getElem?_eq_some_iff.1 hq).1
    have := hp2 q x (by omega) hq
    rw [e, bl_irr] at this
    cases this
  | some y =>
    by_cases e : y.1 = s
    · exact ⟨p, true, done true (fun x h => by rw [hx] at h; cases h; exact decide_eq_true e) (fun h => by simp [hx] at h), fun _ => ⟨y, hx, e⟩, fun h => by cases h⟩
    · refine ⟨p, false, done false (fun x h => by rw [hx] at h; cases h; exact decide_eq_false e) (fun h => by simp [hx] at h), fun h => (by cases h), fun _ x hm ex => ?_⟩
      obtain ⟨q, hq⟩ := List.getElem?_of_mem hm
      rcases Nat.lt_trichotomy q p with h | h | h
      · have := hp2 q x h hq
        rw [ex, bl_irr] at this
        cases this
      · subst h; rw [hx] at hq; cases hq; exact e ex
      · have h1 := hs p q _ _ h hx hq
        have h2 := hp3 p y (Nat.le_refl _) hx
        rw [ex, h2] at h1
        cases h1
theorem envF_at {l : EL} (hs : Sorted l) : ∀ {i : Nat} {x : List UInt8 × (Rat × Int)}, l[i]? = some x → envF l x.1 = some x.2 := by
  induction l with
  | nil => intro i x h; simp at h
  | cons y l ih =>
    intro i x h
    simp only [envF]
    cases i with
    | zero => simp at h; subst h; rw [if_pos rfl]
    | succ i =>
      have h' : l[i]? = some x := by simpa using h
      have h1 := hs 0 (i + 1) y x (by omega) rfl h
      rw [if_neg (fun e => by rw [e, bl_irr] at h1; cases h1)]
      exact ih (fun a b u v hab hu hv => hs (a + 1) (b + 1) u v (by omega) (by simpa using hu) (by simpa using hv)) h'
theorem envF_none {l : EL} {s : List UInt8} (h : ∀ x ∈ l, x.1 ≠ s) : envF l s = none := by
  induction l with
  | nil => rfl
  | cons y l ih => simp only [envF]; rw [if_neg (h y (by simp)), ih (fun x hx => h x (by simp [hx]))]
end Go.Proofs.YtmpadildchphgaaGreatDoor
