/- Parts of a proof: contracts of the functions that the laws reach. -/
import Derived.Test.YtmpadildchphgaaGreatDoorEU5
import Derived.Test.YtmpadildchphgaaGreatDoorEZ4
import Derived.Test.YtmpadildchphgaaGreatDoorELaw
import Derived.Test.YtmpadildchphgaaGreatDoorEZ1
import Derived.Test.YtmpadildchphgaaGreatDoorTie
import Derived.Test.YtmpadildchphgaaGreatDoorCards
import Derived.LaidMore
import Derived.Lay
import Derived.Stop.Joined
import Derived.SevenTiedAt
import Derived.Test.YtmpadildchphgaaGreatDoorEZ3
import Derived.ChangeMaps5
namespace Go.Proofs.YtmpadildchphgaaGreatDoor
open Go.RowKit
theorem ok_u_Eval {l : EL} (hs : Sorted l) (hl : l.length ≤ 1000000) (hv : ∀ x ∈ l, SzQ 8 x.2.1 ∧ inP x.2.2 = true) : ∀ e, okE e → wtE e ≤ 1000000 → CallOK Tryz.prog 22 [dE e, dNm l, dVl l] (toRV (evE (envF l) e))
  | .num _ _, ho, _ => ok_u_Eval_num ho
  | .nam _, _, _ => ok_u_Eval_nam hs hl hv
  | .neg a, ho, hw => ok_u_Eval_neg (env_of hv) ho hw (ok_u_Eval hs hl hv a ho hw)
  | .bin .add a b, ho, hw => by
    have hw' : wtE a + wtE b + 1 ≤ 1000000 := hw
    exact ok_u_Eval_add (env_of hv) ho.1 ho.2 (by omega) (ok_u_Eval hs hl hv a ho.1 (by omega)) (ok_u_Eval hs hl hv b ho.2 (by omega))
  | .bin .sub a b, ho, hw => by
    have hw' : wtE a + wtE b + 1 ≤ 1000000 := hw
    exact ok_u_Eval_sub (env_of hv) ho.1 ho.2 (by omega) (ok_u_Eval hs hl hv a ho.1 (by omega)) (ok_u_Eval hs hl hv b ho.2 (by omega))
  | .bin .mul a b, ho, hw => by
    have hw' : wtE a + wtE b + 1 ≤ 1000000 := hw
    exact ok_u_Eval_mul (env_of hv) ho.1 ho.2 (by omega) (ok_u_Eval hs hl hv a ho.1 (by omega)) (ok_u_Eval hs hl hv b ho.2 (by omega))
  | .bin .div a b, ho, hw => by
    have hw' : wtE a + wtE b + 1 ≤ 1000000 := hw
    exact ok_u_Eval_div (env_of hv) ho.1 ho.2 (by omega) (ok_u_Eval hs hl hv a ho.1 (by omega)) (ok_u_Eval hs hl hv b ho.2 (by omega))
section
variable {l : EL}
set_option maxHeartbeats 1000000 in
theorem ok_r23_Eval_num {v : Rat} {u : List UInt8} (h : SzQ 8 v) : CallOK Tryz.prog 23 [dE (.num v u), dNm l, dVl l] (toRV (evE (envF l) (.num v u))) := by
  by_cases hu : u = []
  · rw [show evE (envF l) (.num v u) = .ok (v, 0) from if_pos hu]
    refine callOK_of TT_ok mixT Tryz.func23 rfl rfl (Nat.le_of_ble_eq_true rfl) ?_
    repeat refine r_seq (T := TT) ?_
    refine r_region (T := TT) rfl ?_
    repeat (first | refine r_op rfl rfl rfl rfl ?_ | refine r_skip rfl rfl rfl ?_)
    try refine .done ?_
    repeat refine r_seq (T := TT) ?_
    refine r_region (T := TT) rfl ?_
    repeat (first | refine r_op rfl rfl rfl rfl ?_ | refine r_skip rfl rfl rfl ?_)
    try refine .done ?_
    repeat (first | refine r_seq (T := TT) ?_ | refine r_block (T := TT) ?_)
    refine r_region (T := TT) rfl ?_
    repeat (first | refine r_op rfl rfl rfl rfl ?_ | refine r_skip rfl rfl rfl ?_ | refine .done ?_)
    refine r_then (T := TT) rfl ?_
    repeat refine r_seq (T := TT) ?_
    refine r_region (T := TT) rfl ?_
    repeat (first | refine r_op rfl rfl rfl rfl ?_ | refine r_skip rfl rfl rfl ?_)
    try refine .done ?_
    repeat refine r_seq (T := TT) ?_
    refine r_region (T := TT) rfl ?_
    iterate 2 (first | refine r_op rfl rfl rfl rfl ?_ | refine r_skip rfl rfl rfl ?_)
    refine r_bin rfl rfl rfl rfl rfl rfl rfl (binV_eqT (a := u) (b := []) hu) ?_
    repeat (first | refine r_op rfl rfl rfl rfl ?_ | refine r_skip rfl rfl rfl ?_ | refine .done ?_ | refine r_seq (T := TT) ?_ | refine r_region (T := TT) rfl ?_ | refine r_block (T := TT) ?_ | refine r_then (T := TT) rfl ?_ | refine r_else (T := TT) rfl ?_)
    exact r_fin (T := TT) rfl rfl
  · have c1 := ok_r23_Factor u
    unfold facR at c1
    cases hf : fac u with
    | none =>
      rw [hf] at c1
      rw [show evE (envF l) (.num v u) = .error 8 by simp only [evE, if_neg hu, hf]]
      refine callOK_of TT_ok mixT Tryz.func23 rfl rfl (Nat.le_of_ble_eq_true rfl) ?_
      repeat refine r_seq (T := TT) ?_
      refine r_region (T := TT) rfl ?_
      repeat (first | refine r_op rfl rfl rfl rfl ?_ | refine r_skip rfl rfl rfl ?_)
      try refine .done ?_
      repeat refine r_seq (T := TT) ?_
      refine r_region (T := TT) rfl ?_
      repeat (first | refine r_op rfl rfl rfl rfl ?_ | refine r_skip rfl rfl rfl ?_)
      try refine .done ?_
      repeat (first | refine r_seq (T := TT) ?_ | refine r_block (T := TT) ?_)
      refine r_region (T := TT) rfl ?_
      repeat (first | refine r_op rfl rfl rfl rfl ?_ | refine r_skip rfl rfl rfl ?_ | refine .done ?_)
      refine r_then (T := TT) rfl ?_
      repeat refine r_seq (T := TT) ?_
      refine r_region (T := TT) rfl ?_
      repeat (first | refine r_op rfl rfl rfl rfl ?_ | refine r_skip rfl rfl rfl ?_)
      try refine .done ?_
      repeat refine r_seq (T := TT) ?_
      refine r_region (T := TT) rfl ?_
      iterate 2 (first | refine r_op rfl rfl rfl rfl ?_ | refine r_skip rfl rfl rfl ?_)
      refine r_bin rfl rfl rfl rfl rfl rfl rfl (binV_eqF (a := u) (b := []) hu) ?_
      repeat (first | refine r_op rfl rfl rfl rfl ?_ | refine r_skip rfl rfl rfl ?_ | refine .done ?_ | refine r_seq (T := TT) ?_ | refine r_region (T := TT) rfl ?_ | refine r_block (T := TT) ?_ | refine r_then (T := TT) rfl ?_ | refine r_else (T := TT) rfl ?_)
      refine r_call (c1) rfl rfl rfl rfl rfl rfl rfl ?_
      repeat (first | refine r_op rfl rfl rfl rfl ?_ | refine r_skip rfl rfl rfl ?_ | refine .done ?_ | refine r_seq (T := TT) ?_ | refine r_region (T := TT) rfl ?_ | refine r_block (T := TT) ?_ | refine r_then (T := TT) rfl ?_ | refine r_else (T := TT) rfl ?_)
      exact r_fin (T := TT) rfl rfl
    | some q =>
      rw [hf] at c1
      rw [show evE (envF l) (.num v u) = .ok (v * q, 1) by simp only [evE, if_neg hu, hf]]
      have c2 := ok_r23_Mul (a := v) (b := q) (p := 0) (p' := 1) h (fac_sz hf).1 (by decide) rfl rfl
      rw [show mulR v 0 q 1 = .ok (v * q, 1) from if_pos (by decide)] at c2
      refine callOK_of TT_ok mixT Tryz.func23 rfl rfl (Nat.le_of_ble_eq_true rfl) ?_
      repeat refine r_seq (T := TT) ?_
      refine r_region (T := TT) rfl ?_
      repeat (first | refine r_op rfl rfl rfl rfl ?_ | refine r_skip rfl rfl rfl ?_)
      try refine .done ?_
      repeat refine r_seq (T := TT) ?_
      refine r_region (T := TT) rfl ?_
      repeat (first | refine r_op rfl rfl rfl rfl ?_ | refine r_skip rfl rfl rfl ?_)
      try refine .done ?_
      repeat (first | refine r_seq (T := TT) ?_ | refine r_block (T := TT) ?_)
      refine r_region (T := TT) rfl ?_
      repeat (first | refine r_op rfl rfl rfl rfl ?_ | refine r_skip rfl rfl rfl ?_ | refine .done ?_)
      refine r_then (T := TT) rfl ?_
      repeat refine r_seq (T := TT) ?_
      refine r_region (T := TT) rfl ?_
      repeat (first | refine r_op rfl rfl rfl rfl ?_ | refine r_skip rfl rfl rfl ?_)
      try refine .done ?_
      repeat refine r_seq (T := TT) ?_
      refine r_region (T := TT) rfl ?_
      iterate 2 (first | refine r_op rfl rfl rfl rfl ?_ | refine r_skip rfl rfl rfl ?_)
      refine r_bin rfl rfl rfl rfl rfl rfl rfl (binV_eqF (a := u) (b := []) hu) ?_
      repeat (first | refine r_op rfl rfl rfl rfl ?_ | refine r_skip rfl rfl rfl ?_ | refine .done ?_ | refine r_seq (T := TT) ?_ | refine r_region (T := TT) rfl ?_ | refine r_block (T := TT) ?_ | refine r_then (T := TT) rfl ?_ | refine r_else (T := TT) rfl ?_)
      refine r_call (c1) rfl rfl rfl rfl rfl rfl rfl ?_
      repeat (first | refine r_op rfl rfl rfl rfl ?_ | refine r_skip rfl rfl rfl ?_ | refine .done ?_ | refine r_seq (T := TT) ?_ | refine r_region (T := TT) rfl ?_ | refine r_block (T := TT) ?_ | refine r_then (T := TT) rfl ?_ | refine r_else (T := TT) rfl ?_)
      refine r_call (c2) rfl rfl rfl rfl rfl rfl rfl ?_
      repeat (first | refine r_op rfl rfl rfl rfl ?_ | refine r_skip rfl rfl rfl ?_ | refine .done ?_ | refine r_seq (T := TT) ?_ | refine r_region (T := TT) rfl ?_ | refine r_block (T := TT) ?_ | refine r_then (T := TT) rfl ?_ | refine r_else (T := TT) rfl ?_)
      exact r_fin (T := TT) rfl rfl
theorem envF_first {l : EL} {s : List UInt8} {i : Nat} {x : List UInt8 × (Rat × Int)} (hx : l[i]? = some x) (e : x.1 = s) (h : ∀ (q : Nat) y, q < i → l[q]? = some y → y.1 ≠ s) : envF l s = some x.2 := by
  induction l generalizing i with
  | nil => simp at hx
  | cons y l ih =>
    simp only [envF]
    cases i with
    | zero => simp at hx; subst hx; rw [if_pos e]
    | succ i =>
      rw [if_neg (h 0 y (by omega) rfl)]
      exact ih (i := i) (by simpa using hx) (fun q z hq hz => h (q + 1) z (by omega) (by simpa using hz))
set_option maxHeartbeats 1000000 in
theorem ok_r23_Eval_nam {s : List UInt8} (hl : l.length ≤ 1000000) : CallOK Tryz.prog 23 [dE (.nam s), dNm l, dVl l] (toRV (evE (envF l) (.nam s))) := by
  refine callOK_of TT_ok mixT Tryz.func23 rfl rfl (Nat.le_of_ble_eq_true rfl) ?_
  repeat (first | refine r_op rfl rfl rfl rfl ?_ | refine r_skip rfl rfl rfl ?_ | refine .done ?_ | refine r_seq (T := TT) ?_ | refine r_region (T := TT) rfl ?_ | refine r_block (T := TT) ?_ | refine r_then (T := TT) rfl ?_ | refine r_else (T := TT) rfl ?_)
  refine r_loop Nat (fun j => j ≤ l.length ∧ ∀ (q : Nat) y, q < j → l[q]? = some y → y.1 ≠ s) (fun j => ⟨[(1, .d (dNm l)), (2, .d (dVl l)), (3, .box 0 0), (6, .box 1 0), (7, .d (dN .i64 0)), (11, .d (dN .i64 j))], [(0, some (aE (.nam s))), (1, some aQt0)]⟩) (fun j => l.length - j) 0 ⟨Nat.zero_le _, fun q y h => absurd h (Nat.not_lt_zero _)⟩
    (weak ⟨rfl, rfl, rfl, rfl, rfl, rfl, trivial⟩ ⟨rfl, rfl, trivial⟩ rfl) ?_
  rintro j ⟨hj, hall⟩
  repeat refine r_seq (T := TT) ?_
  refine r_region (T := TT) rfl ?_
  iterate 3 (first | refine r_op rfl rfl rfl rfl ?_ | refine r_skip rfl rfl rfl ?_)
  by_cases hlt : j < l.length
  · have hx : l[j]? = some l[j] := by simp [hlt]
    refine r_eq (v' := .bool true) rfl rfl rfl rfl ?_ ?_
    · exact congrArg Value.bool (decide_eq_true (by omega))
    repeat (first | refine r_op rfl rfl rfl rfl ?_ | refine r_skip rfl rfl rfl ?_ | refine .done ?_ | refine r_seq (T := TT) ?_ | refine r_region (T := TT) rfl ?_ | refine r_block (T := TT) ?_ | refine r_then (T := TT) rfl ?_ | refine r_else (T := TT) rfl ?_)
    refine r_idx (i := j) (cs' := [.val (vL l[j].1)]) hlt (nm_at hx) (by simp) rfl rfl rfl rfl rfl rfl rfl rfl ?_
    iterate 3 (first | refine r_op rfl rfl rfl rfl ?_ | refine r_skip rfl rfl rfl ?_)
    by_cases e : l[j].1 = s
    · refine r_bin rfl rfl rfl rfl rfl rfl rfl (binV_eqT (a := l[j].1) (b := s) e) ?_
      repeat (first | refine r_op rfl rfl rfl rfl ?_ | refine r_skip rfl rfl rfl ?_ | refine .done ?_ | refine r_seq (T := TT) ?_ | refine r_region (T := TT) rfl ?_ | refine r_block (T := TT) ?_ | refine r_then (T := TT) rfl ?_ | refine r_else (T := TT) rfl ?_)
      refine r_idx (i := j) (cs' := aQt l[j].2.1 l[j].2.2) hlt (vl_at hx) (Nat.zero_lt_succ 4) rfl rfl rfl rfl rfl rfl rfl rfl ?_
      repeat (first | refine r_op rfl rfl rfl rfl ?_ | refine r_skip rfl rfl rfl ?_ | refine .done ?_ | refine r_seq (T := TT) ?_ | refine r_region (T := TT) rfl ?_ | refine r_block (T := TT) ?_ | refine r_then (T := TT) rfl ?_ | refine r_else (T := TT) rfl ?_)
      rw [show evE (envF l) (.nam s) = .ok l[j].2 by simp only [evE, envF_first hx e hall]]
      exact r_fin (T := TT) rfl rfl
    · refine r_bin rfl rfl rfl rfl rfl rfl rfl (binV_eqF (a := l[j].1) (b := s) e) ?_
      repeat (first | refine r_op rfl rfl rfl rfl ?_ | refine r_skip rfl rfl rfl ?_ | refine .done ?_ | refine r_seq (T := TT) ?_ | refine r_region (T := TT) rfl ?_ | refine r_block (T := TT) ?_ | refine r_then (T := TT) rfl ?_ | refine r_else (T := TT) rfl ?_)
      exact ⟨j + 1, ⟨hlt, fun q y hq hy => by
        by_cases eq : q = j
        · subst eq; rw [hx] at hy; cases hy; exact e
        · exact hall q y (by omega) hy⟩, by omega, weak ⟨rfl, rfl, rfl, rfl, rfl, tv_i64 (by omega) (by omega), trivial⟩ ⟨rfl, rfl, trivial⟩ rfl⟩
  · refine r_eq (v' := .bool false) rfl rfl rfl rfl ?_ ?_
    · exact congrArg Value.bool (decide_eq_false (by omega))
    repeat (first | refine r_op rfl rfl rfl rfl ?_ | refine r_skip rfl rfl rfl ?_ | refine .done ?_ | refine r_seq (T := TT) ?_ | refine r_region (T := TT) rfl ?_ | refine r_block (T := TT) ?_ | refine r_then (T := TT) rfl ?_ | refine r_else (T := TT) rfl ?_)
    rw [show evE (envF l) (.nam s) = .error 4 by
      have : envF l s = none := envF_none (fun x hx => by
        obtain ⟨q, hq⟩ := List.getElem?_of_mem hx
        exact hall q x (by have := (List.getElem?_eq_some_iff.1 hq).1; omega) hq)
      simp only [evE, this]]
    exact r_fin (T := TT) rfl rfl
set_option maxHeartbeats 1000000 in
theorem ok_r23_Eval_neg {a : Ex} (ih : CallOK Tryz.prog 23 [dE a, dNm l, dVl l] (toRV (evE (envF l) a))) : CallOK Tryz.prog 23 [dE (.neg a), dNm l, dVl l] (toRV (evE (envF l) (.neg a))) := by
  obtain ⟨o1, na1, xs1, nb1, ys1, nm1, n1, cs1, hA⟩ := aE_form a
  rw [show dE (.neg a) = .agg ([.val (.int .i64 3)] ++ aQ0 ++ [.val (vL []), .sl 1 (aE a)]) from congrArg DV.agg (aE_neg a), hA]
  rw [show dE a = .agg (cell7 o1 na1 xs1 nb1 ys1 nm1 n1 cs1) from congrArg DV.agg hA] at ih
  cases ha : evE (envF l) a with
  | error z =>
    have hz := ev_err ha
    rw [ha] at ih
    rw [show evE (envF l) (.neg a) = .error z by simp only [evE, ha]]
    refine callOK_of TT_ok mixT Tryz.func23 rfl rfl (Nat.le_of_ble_eq_true rfl) ?_
    repeat (first | refine r_op rfl rfl rfl rfl ?_ | refine r_skip rfl rfl rfl ?_ | refine .done ?_ | refine r_seq (T := TT) ?_ | refine r_region (T := TT) rfl ?_ | refine r_block (T := TT) ?_ | refine r_then (T := TT) rfl ?_ | refine r_else (T := TT) rfl ?_)
    refine r_idx (i := 0) (cs' := cell7 o1 na1 xs1 nb1 ys1 nm1 n1 cs1) (by decide) (arg_at1 _) (Nat.zero_lt_succ 6) rfl rfl rfl rfl rfl rfl rfl rfl ?_
    iterate 3 (first | refine r_op rfl rfl rfl rfl ?_ | refine r_skip rfl rfl rfl ?_)
    refine r_call (ih) rfl rfl rfl rfl rfl rfl rfl ?_
    repeat (first | refine r_op rfl rfl rfl rfl ?_ | refine r_skip rfl rfl rfl ?_ | refine .done ?_)
    repeat refine r_seq (T := TT) ?_
    refine r_region (T := TT) rfl ?_
    iterate 1 (first | refine r_op rfl rfl rfl rfl ?_ | refine r_skip rfl rfl rfl ?_)
    refine r_eq (v' := .bool true) rfl rfl rfl rfl ?_ ?_
    · exact congrArg Value.bool ((by simpa using hz))
    repeat (first | refine r_op rfl rfl rfl rfl ?_ | refine r_skip rfl rfl rfl ?_ | refine .done ?_ | refine r_seq (T := TT) ?_ | refine r_region (T := TT) rfl ?_ | refine r_block (T := TT) ?_ | refine r_then (T := TT) rfl ?_ | refine r_else (T := TT) rfl ?_)
    exact r_fin (T := TT) rfl rfl
  | ok x =>
    rw [ha] at ih
    rw [show evE (envF l) (.neg a) = .ok (-x.1, x.2) by simp only [evE, ha]]
    refine callOK_of TT_ok mixT Tryz.func23 rfl rfl (Nat.le_of_ble_eq_true rfl) ?_
    repeat (first | refine r_op rfl rfl rfl rfl ?_ | refine r_skip rfl rfl rfl ?_ | refine .done ?_ | refine r_seq (T := TT) ?_ | refine r_region (T := TT) rfl ?_ | refine r_block (T := TT) ?_ | refine r_then (T := TT) rfl ?_ | refine r_else (T := TT) rfl ?_)
    refine r_idx (i := 0) (cs' := cell7 o1 na1 xs1 nb1 ys1 nm1 n1 cs1) (by decide) (arg_at1 _) (Nat.zero_lt_succ 6) rfl rfl rfl rfl rfl rfl rfl rfl ?_
    iterate 3 (first | refine r_op rfl rfl rfl rfl ?_ | refine r_skip rfl rfl rfl ?_)
    refine r_call (ih) rfl rfl rfl rfl rfl rfl rfl ?_
    repeat (first | refine r_op rfl rfl rfl rfl ?_ | refine r_skip rfl rfl rfl ?_ | refine .done ?_ | refine r_seq (T := TT) ?_ | refine r_region (T := TT) rfl ?_ | refine r_block (T := TT) ?_ | refine r_then (T := TT) rfl ?_ | refine r_else (T := TT) rfl ?_)
    refine r_call (ok_r23_neg) rfl rfl rfl rfl rfl rfl rfl ?_
    repeat (first | refine r_op rfl rfl rfl rfl ?_ | refine r_skip rfl rfl rfl ?_ | refine .done ?_ | refine r_seq (T := TT) ?_ | refine r_region (T := TT) rfl ?_ | refine r_block (T := TT) ?_ | refine r_then (T := TT) rfl ?_ | refine r_else (T := TT) rfl ?_)
    exact r_fin (T := TT) rfl rfl
set_option maxHeartbeats 2000000 in
theorem ok_r23_Eval_add {a b : Ex} (henv : EnvOK (envF l)) (ho : okE a) (ho' : okE b) (hw : wtE a + wtE b ≤ 1000000) (ih : CallOK Tryz.prog 23 [dE a, dNm l, dVl l] (toRV (evE (envF l) a))) (ih' : CallOK Tryz.prog 23 [dE b, dNm l, dVl l] (toRV (evE (envF l) b))) : CallOK Tryz.prog 23 [dE (.bin .add a b), dNm l, dVl l] (toRV (evE (envF l) (.bin .add a b))) := by
  obtain ⟨o1, na1, xs1, nb1, ys1, nm1, n1, cs1, hA⟩ := aE_form a
  obtain ⟨o2, na2, xs2, nb2, ys2, nm2, n2, cs2, hB⟩ := aE_form b
  rw [show dE (.bin .add a b) = .agg ([.val (.int .i64 (B4.add).code)] ++ aQ0 ++ [.val (vL []), .sl 2 (aE a ++ aE b)]) from congrArg DV.agg (aE_bin .add a b), hA, hB]
  rw [show dE a = .agg (cell7 o1 na1 xs1 nb1 ys1 nm1 n1 cs1) from congrArg DV.agg hA] at ih
  rw [show dE b = .agg (cell7 o2 na2 xs2 nb2 ys2 nm2 n2 cs2) from congrArg DV.agg hB] at ih'
  cases ha : evE (envF l) a with
  | error z =>
    have hz := ev_err ha
    rw [ha] at ih
    rw [show evE (envF l) (.bin .add a b) = .error z by simp only [evE, ha]]
    refine callOK_of TT_ok mixT Tryz.func23 rfl rfl (Nat.le_of_ble_eq_true rfl) ?_
    repeat (first | refine r_op rfl rfl rfl rfl ?_ | refine r_skip rfl rfl rfl ?_ | refine .done ?_ | refine r_seq (T := TT) ?_ | refine r_region (T := TT) rfl ?_ | refine r_block (T := TT) ?_ | refine r_then (T := TT) rfl ?_ | refine r_else (T := TT) rfl ?_)
    refine r_idx (i := 0) (cs' := cell7 o1 na1 xs1 nb1 ys1 nm1 n1 cs1) (by decide) (arg_at2 _ _) (Nat.zero_lt_succ 6) rfl rfl rfl rfl rfl rfl rfl rfl ?_
    iterate 3 (first | refine r_op rfl rfl rfl rfl ?_ | refine r_skip rfl rfl rfl ?_)
    refine r_call (ih) rfl rfl rfl rfl rfl rfl rfl ?_
    repeat (first | refine r_op rfl rfl rfl rfl ?_ | refine r_skip rfl rfl rfl ?_ | refine .done ?_)
    repeat refine r_seq (T := TT) ?_
    refine r_region (T := TT) rfl ?_
    iterate 1 (first | refine r_op rfl rfl rfl rfl ?_ | refine r_skip rfl rfl rfl ?_)
    refine r_eq (v' := .bool true) rfl rfl rfl rfl ?_ ?_
    · exact congrArg Value.bool ((by simpa using hz))
    repeat (first | refine r_op rfl rfl rfl rfl ?_ | refine r_skip rfl rfl rfl ?_ | refine .done ?_ | refine r_seq (T := TT) ?_ | refine r_region (T := TT) rfl ?_ | refine r_block (T := TT) ?_ | refine r_then (T := TT) rfl ?_ | refine r_else (T := TT) rfl ?_)
    exact r_fin (T := TT) rfl rfl
  | ok x =>
    obtain ⟨hx, hpx⟩ := ev_ok henv ho ha
    rw [ha] at ih
    cases hb : evE (envF l) b with
    | error z =>
      have hz := ev_err hb
      rw [hb] at ih'
      rw [show evE (envF l) (.bin .add a b) = .error z by simp only [evE, ha, hb]]
      refine callOK_of TT_ok mixT Tryz.func23 rfl rfl (Nat.le_of_ble_eq_true rfl) ?_
      repeat (first | refine r_op rfl rfl rfl rfl ?_ | refine r_skip rfl rfl rfl ?_ | refine .done ?_ | refine r_seq (T := TT) ?_ | refine r_region (T := TT) rfl ?_ | refine r_block (T := TT) ?_ | refine r_then (T := TT) rfl ?_ | refine r_else (T := TT) rfl ?_)
      refine r_idx (i := 0) (cs' := cell7 o1 na1 xs1 nb1 ys1 nm1 n1 cs1) (by decide) (arg_at2 _ _) (Nat.zero_lt_succ 6) rfl rfl rfl rfl rfl rfl rfl rfl ?_
      iterate 3 (first | refine r_op rfl rfl rfl rfl ?_ | refine r_skip rfl rfl rfl ?_)
      refine r_call (ih) rfl rfl rfl rfl rfl rfl rfl ?_
      repeat (first | refine r_op rfl rfl rfl rfl ?_ | refine r_skip rfl rfl rfl ?_ | refine .done ?_ | refine r_seq (T := TT) ?_ | refine r_region (T := TT) rfl ?_ | refine r_block (T := TT) ?_ | refine r_then (T := TT) rfl ?_ | refine r_else (T := TT) rfl ?_)
      refine r_idx (i := 1) (cs' := cell7 o2 na2 xs2 nb2 ys2 nm2 n2 cs2) (by decide) (arg_at3 _ rfl) (Nat.zero_lt_succ 6) rfl rfl rfl rfl rfl rfl rfl rfl ?_
      iterate 3 (first | refine r_op rfl rfl rfl rfl ?_ | refine r_skip rfl rfl rfl ?_)
      refine r_call (ih') rfl rfl rfl rfl rfl rfl rfl ?_
      repeat (first | refine r_op rfl rfl rfl rfl ?_ | refine r_skip rfl rfl rfl ?_ | refine .done ?_)
      repeat refine r_seq (T := TT) ?_
      refine r_region (T := TT) rfl ?_
      iterate 1 (first | refine r_op rfl rfl rfl rfl ?_ | refine r_skip rfl rfl rfl ?_)
      refine r_eq (v' := .bool true) rfl rfl rfl rfl ?_ ?_
      · exact congrArg Value.bool ((by simpa using hz))
      repeat (first | refine r_op rfl rfl rfl rfl ?_ | refine r_skip rfl rfl rfl ?_ | refine .done ?_ | refine r_seq (T := TT) ?_ | refine r_region (T := TT) rfl ?_ | refine r_block (T := TT) ?_ | refine r_then (T := TT) rfl ?_ | refine r_else (T := TT) rfl ?_)
      exact r_fin (T := TT) rfl rfl
    | ok y =>
      obtain ⟨hy, hpy⟩ := ev_ok henv ho' hb
      rw [hb] at ih'
      have hR : evE (envF l) (.bin .add a b) = opR .add x.1 x.2 y.1 y.2 := by simp only [evE, ha, hb]
      rw [hR]
      show CallOK Tryz.prog _ _ (toRV (addR x.1 x.2 y.1 y.2))
      have c := ok_r23_Add (p := x.2) (p' := y.2) hx hy (by omega)
      cases hr : addR x.1 x.2 y.1 y.2 with
      | error z =>
        rw [hr] at c
        refine callOK_of TT_ok mixT Tryz.func23 rfl rfl (Nat.le_of_ble_eq_true rfl) ?_
        repeat (first | refine r_op rfl rfl rfl rfl ?_ | refine r_skip rfl rfl rfl ?_ | refine .done ?_ | refine r_seq (T := TT) ?_ | refine r_region (T := TT) rfl ?_ | refine r_block (T := TT) ?_ | refine r_then (T := TT) rfl ?_ | refine r_else (T := TT) rfl ?_)
        refine r_idx (i := 0) (cs' := cell7 o1 na1 xs1 nb1 ys1 nm1 n1 cs1) (by decide) (arg_at2 _ _) (Nat.zero_lt_succ 6) rfl rfl rfl rfl rfl rfl rfl rfl ?_
        iterate 3 (first | refine r_op rfl rfl rfl rfl ?_ | refine r_skip rfl rfl rfl ?_)
        refine r_call (ih) rfl rfl rfl rfl rfl rfl rfl ?_
        repeat (first | refine r_op rfl rfl rfl rfl ?_ | refine r_skip rfl rfl rfl ?_ | refine .done ?_ | refine r_seq (T := TT) ?_ | refine r_region (T := TT) rfl ?_ | refine r_block (T := TT) ?_ | refine r_then (T := TT) rfl ?_ | refine r_else (T := TT) rfl ?_)
        refine r_idx (i := 1) (cs' := cell7 o2 na2 xs2 nb2 ys2 nm2 n2 cs2) (by decide) (arg_at3 _ rfl) (Nat.zero_lt_succ 6) rfl rfl rfl rfl rfl rfl rfl rfl ?_
        iterate 3 (first | refine r_op rfl rfl rfl rfl ?_ | refine r_skip rfl rfl rfl ?_)
        refine r_call (ih') rfl rfl rfl rfl rfl rfl rfl ?_
        repeat (first | refine r_op rfl rfl rfl rfl ?_ | refine r_skip rfl rfl rfl ?_ | refine .done ?_ | refine r_seq (T := TT) ?_ | refine r_region (T := TT) rfl ?_ | refine r_block (T := TT) ?_ | refine r_then (T := TT) rfl ?_ | refine r_else (T := TT) rfl ?_)
        refine r_call (c) rfl rfl rfl rfl rfl rfl rfl ?_
        repeat (first | refine r_op rfl rfl rfl rfl ?_ | refine r_skip rfl rfl rfl ?_ | refine .done ?_ | refine r_seq (T := TT) ?_ | refine r_region (T := TT) rfl ?_ | refine r_block (T := TT) ?_ | refine r_then (T := TT) rfl ?_ | refine r_else (T := TT) rfl ?_)
        exact r_fin (T := TT) rfl rfl
      | ok z =>
        rw [hr] at c
        refine callOK_of TT_ok mixT Tryz.func23 rfl rfl (Nat.le_of_ble_eq_true rfl) ?_
        repeat (first | refine r_op rfl rfl rfl rfl ?_ | refine r_skip rfl rfl rfl ?_ | refine .done ?_ | refine r_seq (T := TT) ?_ | refine r_region (T := TT) rfl ?_ | refine r_block (T := TT) ?_ | refine r_then (T := TT) rfl ?_ | refine r_else (T := TT) rfl ?_)
        refine r_idx (i := 0) (cs' := cell7 o1 na1 xs1 nb1 ys1 nm1 n1 cs1) (by decide) (arg_at2 _ _) (Nat.zero_lt_succ 6) rfl rfl rfl rfl rfl rfl rfl rfl ?_
        iterate 3 (first | refine r_op rfl rfl rfl rfl ?_ | refine r_skip rfl rfl rfl ?_)
        refine r_call (ih) rfl rfl rfl rfl rfl rfl rfl ?_
        repeat (first | refine r_op rfl rfl rfl rfl ?_ | refine r_skip rfl rfl rfl ?_ | refine .done ?_ | refine r_seq (T := TT) ?_ | refine r_region (T := TT) rfl ?_ | refine r_block (T := TT) ?_ | refine r_then (T := TT) rfl ?_ | refine r_else (T := TT) rfl ?_)
        refine r_idx (i := 1) (cs' := cell7 o2 na2 xs2 nb2 ys2 nm2 n2 cs2) (by decide) (arg_at3 _ rfl) (Nat.zero_lt_succ 6) rfl rfl rfl rfl rfl rfl rfl rfl ?_
        iterate 3 (first | refine r_op rfl rfl rfl rfl ?_ | refine r_skip rfl rfl rfl ?_)
        refine r_call (ih') rfl rfl rfl rfl rfl rfl rfl ?_
        repeat (first | refine r_op rfl rfl rfl rfl ?_ | refine r_skip rfl rfl rfl ?_ | refine .done ?_ | refine r_seq (T := TT) ?_ | refine r_region (T := TT) rfl ?_ | refine r_block (T := TT) ?_ | refine r_then (T := TT) rfl ?_ | refine r_else (T := TT) rfl ?_)
        refine r_call (c) rfl rfl rfl rfl rfl rfl rfl ?_
        repeat (first | refine r_op rfl rfl rfl rfl ?_ | refine r_skip rfl rfl rfl ?_ | refine .done ?_ | refine r_seq (T := TT) ?_ | refine r_region (T := TT) rfl ?_ | refine r_block (T := TT) ?_ | refine r_then (T := TT) rfl ?_ | refine r_else (T := TT) rfl ?_)
        exact r_fin (T := TT) rfl rfl
set_option maxHeartbeats 2000000 in
theorem ok_r23_Eval_sub {a b : Ex} (henv : EnvOK (envF l)) (ho : okE a) (ho' : okE b) (hw : wtE a + wtE b ≤ 1000000) (ih : CallOK Tryz.prog 23 [dE a, dNm l, dVl l] (toRV (evE (envF l) a))) (ih' : CallOK Tryz.prog 23 [dE b, dNm l, dVl l] (toRV (evE (envF l) b))) : CallOK Tryz.prog 23 [dE (.bin .sub a b), dNm l, dVl l] (toRV (evE (envF l) (.bin .sub a b))) := by
  obtain ⟨o1, na1, xs1, nb1, ys1, nm1, n1, cs1, hA⟩ := aE_form a
  obtain ⟨o2, na2, xs2, nb2, ys2, nm2, n2, cs2, hB⟩ := aE_form b
  rw [show dE (.bin .sub a b) = .agg ([.val (.int .i64 (B4.sub).code)] ++ aQ0 ++ [.val (vL []), .sl 2 (aE a ++ aE b)]) from congrArg DV.agg (aE_bin .sub a b), hA, hB]
  rw [show dE a = .agg (cell7 o1 na1 xs1 nb1 ys1 nm1 n1 cs1) from congrArg DV.agg hA] at ih
  rw [show dE b = .agg (cell7 o2 na2 xs2 nb2 ys2 nm2 n2 cs2) from congrArg DV.agg hB] at ih'
  cases ha : evE (envF l) a with
  | error z =>
    have hz := ev_err ha
    rw [ha] at ih
    rw [show evE (envF l) (.bin .sub a b) = .error z by simp only [evE, ha]]
    refine callOK_of TT_ok mixT Tryz.func23 rfl rfl (Nat.le_of_ble_eq_true rfl) ?_
    repeat (first | refine r_op rfl rfl rfl rfl ?_ | refine r_skip rfl rfl rfl ?_ | refine .done ?_ | refine r_seq (T := TT) ?_ | refine r_region (T := TT) rfl ?_ | refine r_block (T := TT) ?_ | refine r_then (T := TT) rfl ?_ | refine r_else (T := TT) rfl ?_)
    refine r_idx (i := 0) (cs' := cell7 o1 na1 xs1 nb1 ys1 nm1 n1 cs1) (by decide) (arg_at2 _ _) (Nat.zero_lt_succ 6) rfl rfl rfl rfl rfl rfl rfl rfl ?_
    iterate 3 (first | refine r_op rfl rfl rfl rfl ?_ | refine r_skip rfl rfl rfl ?_)
    refine r_call (ih) rfl rfl rfl rfl rfl rfl rfl ?_
    repeat (first | refine r_op rfl rfl rfl rfl ?_ | refine r_skip rfl rfl rfl ?_ | refine .done ?_)
    repeat refine r_seq (T := TT) ?_
    refine r_region (T := TT) rfl ?_
    iterate 1 (first | refine r_op rfl rfl rfl rfl ?_ | refine r_skip rfl rfl rfl ?_)
    refine r_eq (v' := .bool true) rfl rfl rfl rfl ?_ ?_
    · exact congrArg Value.bool ((by simpa using hz))
    repeat (first | refine r_op rfl rfl rfl rfl ?_ | refine r_skip rfl rfl rfl ?_ | refine .done ?_ | refine r_seq (T := TT) ?_ | refine r_region (T := TT) rfl ?_ | refine r_block (T := TT) ?_ | refine r_then (T := TT) rfl ?_ | refine r_else (T := TT) rfl ?_)
    exact r_fin (T := TT) rfl rfl
  | ok x =>
    obtain ⟨hx, hpx⟩ := ev_ok henv ho ha
    rw [ha] at ih
    cases hb : evE (envF l) b with
    | error z =>
      have hz := ev_err hb
      rw [hb] at ih'
      rw [show evE (envF l) (.bin .sub a b) = .error z by simp only [evE, ha, hb]]
      refine callOK_of TT_ok mixT Tryz.func23 rfl rfl (Nat.le_of_ble_eq_true rfl) ?_
      repeat (first | refine r_op rfl rfl rfl rfl ?_ | refine r_skip rfl rfl rfl ?_ | refine .done ?_ | refine r_seq (T := TT) ?_ | refine r_region (T := TT) rfl ?_ | refine r_block (T := TT) ?_ | refine r_then (T := TT) rfl ?_ | refine r_else (T := TT) rfl ?_)
      refine r_idx (i := 0) (cs' := cell7 o1 na1 xs1 nb1 ys1 nm1 n1 cs1) (by decide) (arg_at2 _ _) (Nat.zero_lt_succ 6) rfl rfl rfl rfl rfl rfl rfl rfl ?_
      iterate 3 (first | refine r_op rfl rfl rfl rfl ?_ | refine r_skip rfl rfl rfl ?_)
      refine r_call (ih) rfl rfl rfl rfl rfl rfl rfl ?_
      repeat (first | refine r_op rfl rfl rfl rfl ?_ | refine r_skip rfl rfl rfl ?_ | refine .done ?_ | refine r_seq (T := TT) ?_ | refine r_region (T := TT) rfl ?_ | refine r_block (T := TT) ?_ | refine r_then (T := TT) rfl ?_ | refine r_else (T := TT) rfl ?_)
      refine r_idx (i := 1) (cs' := cell7 o2 na2 xs2 nb2 ys2 nm2 n2 cs2) (by decide) (arg_at3 _ rfl) (Nat.zero_lt_succ 6) rfl rfl rfl rfl rfl rfl rfl rfl ?_
      iterate 3 (first | refine r_op rfl rfl rfl rfl ?_ | refine r_skip rfl rfl rfl ?_)
      refine r_call (ih') rfl rfl rfl rfl rfl rfl rfl ?_
      repeat (first | refine r_op rfl rfl rfl rfl ?_ | refine r_skip rfl rfl rfl ?_ | refine .done ?_)
      repeat refine r_seq (T := TT) ?_
      refine r_region (T := TT) rfl ?_
      iterate 1 (first | refine r_op rfl rfl rfl rfl ?_ | refine r_skip rfl rfl rfl ?_)
      refine r_eq (v' := .bool true) rfl rfl rfl rfl ?_ ?_
      · exact congrArg Value.bool ((by simpa using hz))
      repeat (first | refine r_op rfl rfl rfl rfl ?_ | refine r_skip rfl rfl rfl ?_ | refine .done ?_ | refine r_seq (T := TT) ?_ | refine r_region (T := TT) rfl ?_ | refine r_block (T := TT) ?_ | refine r_then (T := TT) rfl ?_ | refine r_else (T := TT) rfl ?_)
      exact r_fin (T := TT) rfl rfl
    | ok y =>
      obtain ⟨hy, hpy⟩ := ev_ok henv ho' hb
      rw [hb] at ih'
      have hR : evE (envF l) (.bin .sub a b) = opR .sub x.1 x.2 y.1 y.2 := by simp only [evE, ha, hb]
      rw [hR]
      show CallOK Tryz.prog _ _ (toRV (addR x.1 x.2 (-y.1) y.2))
      have c := ok_r23_Add (p := x.2) (p' := y.2) hx hy.neg (by omega)
      cases hr : addR x.1 x.2 (-y.1) y.2 with
      | error z =>
        rw [hr] at c
        refine callOK_of TT_ok mixT Tryz.func23 rfl rfl (Nat.le_of_ble_eq_true rfl) ?_
        repeat (first | refine r_op rfl rfl rfl rfl ?_ | refine r_skip rfl rfl rfl ?_ | refine .done ?_ | refine r_seq (T := TT) ?_ | refine r_region (T := TT) rfl ?_ | refine r_block (T := TT) ?_ | refine r_then (T := TT) rfl ?_ | refine r_else (T := TT) rfl ?_)
        refine r_idx (i := 0) (cs' := cell7 o1 na1 xs1 nb1 ys1 nm1 n1 cs1) (by decide) (arg_at2 _ _) (Nat.zero_lt_succ 6) rfl rfl rfl rfl rfl rfl rfl rfl ?_
        iterate 3 (first | refine r_op rfl rfl rfl rfl ?_ | refine r_skip rfl rfl rfl ?_)
        refine r_call (ih) rfl rfl rfl rfl rfl rfl rfl ?_
        repeat (first | refine r_op rfl rfl rfl rfl ?_ | refine r_skip rfl rfl rfl ?_ | refine .done ?_ | refine r_seq (T := TT) ?_ | refine r_region (T := TT) rfl ?_ | refine r_block (T := TT) ?_ | refine r_then (T := TT) rfl ?_ | refine r_else (T := TT) rfl ?_)
        refine r_idx (i := 1) (cs' := cell7 o2 na2 xs2 nb2 ys2 nm2 n2 cs2) (by decide) (arg_at3 _ rfl) (Nat.zero_lt_succ 6) rfl rfl rfl rfl rfl rfl rfl rfl ?_
        iterate 3 (first | refine r_op rfl rfl rfl rfl ?_ | refine r_skip rfl rfl rfl ?_)
        refine r_call (ih') rfl rfl rfl rfl rfl rfl rfl ?_
        repeat (first | refine r_op rfl rfl rfl rfl ?_ | refine r_skip rfl rfl rfl ?_ | refine .done ?_ | refine r_seq (T := TT) ?_ | refine r_region (T := TT) rfl ?_ | refine r_block (T := TT) ?_ | refine r_then (T := TT) rfl ?_ | refine r_else (T := TT) rfl ?_)
        refine r_call (ok_r23_neg) rfl rfl rfl rfl rfl rfl rfl ?_
        refine r_call (c) rfl rfl rfl rfl rfl rfl rfl ?_
        repeat (first | refine r_op rfl rfl rfl rfl ?_ | refine r_skip rfl rfl rfl ?_ | refine .done ?_ | refine r_seq (T := TT) ?_ | refine r_region (T := TT) rfl ?_ | refine r_block (T := TT) ?_ | refine r_then (T := TT) rfl ?_ | refine r_else (T := TT) rfl ?_)
        exact r_fin (T := TT) rfl rfl
      | ok z =>
        rw [hr] at c
        refine callOK_of TT_ok mixT Tryz.func23 rfl rfl (Nat.le_of_ble_eq_true rfl) ?_
        repeat (first | refine r_op rfl rfl rfl rfl ?_ | refine r_skip rfl rfl rfl ?_ | refine .done ?_ | refine r_seq (T := TT) ?_ | refine r_region (T := TT) rfl ?_ | refine r_block (T := TT) ?_ | refine r_then (T := TT) rfl ?_ | refine r_else (T := TT) rfl ?_)
        refine r_idx (i := 0) (cs' := cell7 o1 na1 xs1 nb1 ys1 nm1 n1 cs1) (by decide) (arg_at2 _ _) (Nat.zero_lt_succ 6) rfl rfl rfl rfl rfl rfl rfl rfl ?_
        iterate 3 (first | refine r_op rfl rfl rfl rfl ?_ | refine r_skip rfl rfl rfl ?_)
        refine r_call (ih) rfl rfl rfl rfl rfl rfl rfl ?_
        repeat (first | refine r_op rfl rfl rfl rfl ?_ | refine r_skip rfl rfl rfl ?_ | refine .done ?_ | refine r_seq (T := TT) ?_ | refine r_region (T := TT) rfl ?_ | refine r_block (T := TT) ?_ | refine r_then (T := TT) rfl ?_ | refine r_else (T := TT) rfl ?_)
        refine r_idx (i := 1) (cs' := cell7 o2 na2 xs2 nb2 ys2 nm2 n2 cs2) (by decide) (arg_at3 _ rfl) (Nat.zero_lt_succ 6) rfl rfl rfl rfl rfl rfl rfl rfl ?_
        iterate 3 (first | refine r_op rfl rfl rfl rfl ?_ | refine r_skip rfl rfl rfl ?_)
        refine r_call (ih') rfl rfl rfl rfl rfl rfl rfl ?_
        repeat (first | refine r_op rfl rfl rfl rfl ?_ | refine r_skip rfl rfl rfl ?_ | refine .done ?_ | refine r_seq (T := TT) ?_ | refine r_region (T := TT) rfl ?_ | refine r_block (T := TT) ?_ | refine r_then (T := TT) rfl ?_ | refine r_else (T := TT) rfl ?_)
        refine r_call (ok_r23_neg) rfl rfl rfl rfl rfl rfl rfl ?_
        refine r_call (c) rfl rfl rfl rfl rfl rfl rfl ?_
        repeat (first | refine r_op rfl rfl rfl rfl ?_ | refine r_skip rfl rfl rfl ?_ | refine .done ?_ | refine r_seq (T := TT) ?_ | refine r_region (T := TT) rfl ?_ | refine r_block (T := TT) ?_ | refine r_then (T := TT) rfl ?_ | refine r_else (T := TT) rfl ?_)
        exact r_fin (T := TT) rfl rfl
set_option maxHeartbeats 2000000 in
theorem ok_r23_Eval_mul {a b : Ex} (henv : EnvOK (envF l)) (ho : okE a) (ho' : okE b) (hw : wtE a + wtE b ≤ 1000000) (ih : CallOK Tryz.prog 23 [dE a, dNm l, dVl l] (toRV (evE (envF l) a))) (ih' : CallOK Tryz.prog 23 [dE b, dNm l, dVl l] (toRV (evE (envF l) b))) : CallOK Tryz.prog 23 [dE (.bin .mul a b), dNm l, dVl l] (toRV (evE (envF l) (.bin .mul a b))) := by
  obtain ⟨o1, na1, xs1, nb1, ys1, nm1, n1, cs1, hA⟩ := aE_form a
  obtain ⟨o2, na2, xs2, nb2, ys2, nm2, n2, cs2, hB⟩ := aE_form b
  rw [show dE (.bin .mul a b) = .agg ([.val (.int .i64 (B4.mul).code)] ++ aQ0 ++ [.val (vL []), .sl 2 (aE a ++ aE b)]) from congrArg DV.agg (aE_bin .mul a b), hA, hB]
  rw [show dE a = .agg (cell7 o1 na1 xs1 nb1 ys1 nm1 n1 cs1) from congrArg DV.agg hA] at ih
  rw [show dE b = .agg (cell7 o2 na2 xs2 nb2 ys2 nm2 n2 cs2) from congrArg DV.agg hB] at ih'
  cases ha : evE (envF l) a with
  | error z =>
    have hz := ev_err ha
    rw [ha] at ih
    rw [show evE (envF l) (.bin .mul a b) = .error z by simp only [evE, ha]]
    refine callOK_of TT_ok mixT Tryz.func23 rfl rfl (Nat.le_of_ble_eq_true rfl) ?_
    repeat (first | refine r_op rfl rfl rfl rfl ?_ | refine r_skip rfl rfl rfl ?_ | refine .done ?_ | refine r_seq (T := TT) ?_ | refine r_region (T := TT) rfl ?_ | refine r_block (T := TT) ?_ | refine r_then (T := TT) rfl ?_ | refine r_else (T := TT) rfl ?_)
    refine r_idx (i := 0) (cs' := cell7 o1 na1 xs1 nb1 ys1 nm1 n1 cs1) (by decide) (arg_at2 _ _) (Nat.zero_lt_succ 6) rfl rfl rfl rfl rfl rfl rfl rfl ?_
    iterate 3 (first | refine r_op rfl rfl rfl rfl ?_ | refine r_skip rfl rfl rfl ?_)
    refine r_call (ih) rfl rfl rfl rfl rfl rfl rfl ?_
    repeat (first | refine r_op rfl rfl rfl rfl ?_ | refine r_skip rfl rfl rfl ?_ | refine .done ?_)
    repeat refine r_seq (T := TT) ?_
    refine r_region (T := TT) rfl ?_
    iterate 1 (first | refine r_op rfl rfl rfl rfl ?_ | refine r_skip rfl rfl rfl ?_)
    refine r_eq (v' := .bool true) rfl rfl rfl rfl ?_ ?_
    · exact congrArg Value.bool ((by simpa using hz))
    repeat (first | refine r_op rfl rfl rfl rfl ?_ | refine r_skip rfl rfl rfl ?_ | refine .done ?_ | refine r_seq (T := TT) ?_ | refine r_region (T := TT) rfl ?_ | refine r_block (T := TT) ?_ | refine r_then (T := TT) rfl ?_ | refine r_else (T := TT) rfl ?_)
    exact r_fin (T := TT) rfl rfl
  | ok x =>
    obtain ⟨hx, hpx⟩ := ev_ok henv ho ha
    rw [ha] at ih
    cases hb : evE (envF l) b with
    | error z =>
      have hz := ev_err hb
      rw [hb] at ih'
      rw [show evE (envF l) (.bin .mul a b) = .error z by simp only [evE, ha, hb]]
      refine callOK_of TT_ok mixT Tryz.func23 rfl rfl (Nat.le_of_ble_eq_true rfl) ?_
      repeat (first | refine r_op rfl rfl rfl rfl ?_ | refine r_skip rfl rfl rfl ?_ | refine .done ?_ | refine r_seq (T := TT) ?_ | refine r_region (T := TT) rfl ?_ | refine r_block (T := TT) ?_ | refine r_then (T := TT) rfl ?_ | refine r_else (T := TT) rfl ?_)
      refine r_idx (i := 0) (cs' := cell7 o1 na1 xs1 nb1 ys1 nm1 n1 cs1) (by decide) (arg_at2 _ _) (Nat.zero_lt_succ 6) rfl rfl rfl rfl rfl rfl rfl rfl ?_
      iterate 3 (first | refine r_op rfl rfl rfl rfl ?_ | refine r_skip rfl rfl rfl ?_)
      refine r_call (ih) rfl rfl rfl rfl rfl rfl rfl ?_
      repeat (first | refine r_op rfl rfl rfl rfl ?_ | refine r_skip rfl rfl rfl ?_ | refine .done ?_ | refine r_seq (T := TT) ?_ | refine r_region (T := TT) rfl ?_ | refine r_block (T := TT) ?_ | refine r_then (T := TT) rfl ?_ | refine r_else (T := TT) rfl ?_)
      refine r_idx (i := 1) (cs' := cell7 o2 na2 xs2 nb2 ys2 nm2 n2 cs2) (by decide) (arg_at3 _ rfl) (Nat.zero_lt_succ 6) rfl rfl rfl rfl rfl rfl rfl rfl ?_
      iterate 3 (first | refine r_op rfl rfl rfl rfl ?_ | refine r_skip rfl rfl rfl ?_)
      refine r_call (ih') rfl rfl rfl rfl rfl rfl rfl ?_
      repeat (first | refine r_op rfl rfl rfl rfl ?_ | refine r_skip rfl rfl rfl ?_ | refine .done ?_)
      repeat refine r_seq (T := TT) ?_
      refine r_region (T := TT) rfl ?_
      iterate 1 (first | refine r_op rfl rfl rfl rfl ?_ | refine r_skip rfl rfl rfl ?_)
      refine r_eq (v' := .bool true) rfl rfl rfl rfl ?_ ?_
      · exact congrArg Value.bool ((by simpa using hz))
      repeat (first | refine r_op rfl rfl rfl rfl ?_ | refine r_skip rfl rfl rfl ?_ | refine .done ?_ | refine r_seq (T := TT) ?_ | refine r_region (T := TT) rfl ?_ | refine r_block (T := TT) ?_ | refine r_then (T := TT) rfl ?_ | refine r_else (T := TT) rfl ?_)
      exact r_fin (T := TT) rfl rfl
    | ok y =>
      obtain ⟨hy, hpy⟩ := ev_ok henv ho' hb
      rw [hb] at ih'
      have hR : evE (envF l) (.bin .mul a b) = opR .mul x.1 x.2 y.1 y.2 := by simp only [evE, ha, hb]
      rw [hR]
      show CallOK Tryz.prog _ _ (toRV (mulR x.1 x.2 y.1 y.2))
      have c := ok_r23_Mul hx hy (by omega) hpx hpy
      cases hr : mulR x.1 x.2 y.1 y.2 with
      | error z =>
        rw [hr] at c
        refine callOK_of TT_ok mixT Tryz.func23 rfl rfl (Nat.le_of_ble_eq_true rfl) ?_
        repeat (first | refine r_op rfl rfl rfl rfl ?_ | refine r_skip rfl rfl rfl ?_ | refine .done ?_ | refine r_seq (T := TT) ?_ | refine r_region (T := TT) rfl ?_ | refine r_block (T := TT) ?_ | refine r_then (T := TT) rfl ?_ | refine r_else (T := TT) rfl ?_)
        refine r_idx (i := 0) (cs' := cell7 o1 na1 xs1 nb1 ys1 nm1 n1 cs1) (by decide) (arg_at2 _ _) (Nat.zero_lt_succ 6) rfl rfl rfl rfl rfl rfl rfl rfl ?_
        iterate 3 (first | refine r_op rfl rfl rfl rfl ?_ | refine r_skip rfl rfl rfl ?_)
        refine r_call (ih) rfl rfl rfl rfl rfl rfl rfl ?_
        repeat (first | refine r_op rfl rfl rfl rfl ?_ | refine r_skip rfl rfl rfl ?_ | refine .done ?_ | refine r_seq (T := TT) ?_ | refine r_region (T := TT) rfl ?_ | refine r_block (T := TT) ?_ | refine r_then (T := TT) rfl ?_ | refine r_else (T := TT) rfl ?_)
        refine r_idx (i := 1) (cs' := cell7 o2 na2 xs2 nb2 ys2 nm2 n2 cs2) (by decide) (arg_at3 _ rfl) (Nat.zero_lt_succ 6) rfl rfl rfl rfl rfl rfl rfl rfl ?_
        iterate 3 (first | refine r_op rfl rfl rfl rfl ?_ | refine r_skip rfl rfl rfl ?_)
        refine r_call (ih') rfl rfl rfl rfl rfl rfl rfl ?_
        repeat (first | refine r_op rfl rfl rfl rfl ?_ | refine r_skip rfl rfl rfl ?_ | refine .done ?_ | refine r_seq (T := TT) ?_ | refine r_region (T := TT) rfl ?_ | refine r_block (T := TT) ?_ | refine r_then (T := TT) rfl ?_ | refine r_else (T := TT) rfl ?_)
        refine r_call (c) rfl rfl rfl rfl rfl rfl rfl ?_
        repeat (first | refine r_op rfl rfl rfl rfl ?_ | refine r_skip rfl rfl rfl ?_ | refine .done ?_ | refine r_seq (T := TT) ?_ | refine r_region (T := TT) rfl ?_ | refine r_block (T := TT) ?_ | refine r_then (T := TT) rfl ?_ | refine r_else (T := TT) rfl ?_)
        exact r_fin (T := TT) rfl rfl
      | ok z =>
        rw [hr] at c
        refine callOK_of TT_ok mixT Tryz.func23 rfl rfl (Nat.le_of_ble_eq_true rfl) ?_
        repeat (first | refine r_op rfl rfl rfl rfl ?_ | refine r_skip rfl rfl rfl ?_ | refine .done ?_ | refine r_seq (T := TT) ?_ | refine r_region (T := TT) rfl ?_ | refine r_block (T := TT) ?_ | refine r_then (T := TT) rfl ?_ | refine r_else (T := TT) rfl ?_)
        refine r_idx (i := 0) (cs' := cell7 o1 na1 xs1 nb1 ys1 nm1 n1 cs1) (by decide) (arg_at2 _ _) (Nat.zero_lt_succ 6) rfl rfl rfl rfl rfl rfl rfl rfl ?_
        iterate 3 (first | refine r_op rfl rfl rfl rfl ?_ | refine r_skip rfl rfl rfl ?_)
        refine r_call (ih) rfl rfl rfl rfl rfl rfl rfl ?_
        repeat (first | refine r_op rfl rfl rfl rfl ?_ | refine r_skip rfl rfl rfl ?_ | refine .done ?_ | refine r_seq (T := TT) ?_ | refine r_region (T := TT) rfl ?_ | refine r_block (T := TT) ?_ | refine r_then (T := TT) rfl ?_ | refine r_else (T := TT) rfl ?_)
        refine r_idx (i := 1) (cs' := cell7 o2 na2 xs2 nb2 ys2 nm2 n2 cs2) (by decide) (arg_at3 _ rfl) (Nat.zero_lt_succ 6) rfl rfl rfl rfl rfl rfl rfl rfl ?_
        iterate 3 (first | refine r_op rfl rfl rfl rfl ?_ | refine r_skip rfl rfl rfl ?_)
        refine r_call (ih') rfl rfl rfl rfl rfl rfl rfl ?_
        repeat (first | refine r_op rfl rfl rfl rfl ?_ | refine r_skip rfl rfl rfl ?_ | refine .done ?_ | refine r_seq (T := TT) ?_ | refine r_region (T := TT) rfl ?_ | refine r_block (T := TT) ?_ | refine r_then (T := TT) rfl ?_ | refine r_else (T := TT) rfl ?_)
        refine r_call (c) rfl rfl rfl rfl rfl rfl rfl ?_
        repeat (first | refine r_op rfl rfl rfl rfl ?_ | refine r_skip rfl rfl rfl ?_ | refine .done ?_ | refine r_seq (T := TT) ?_ | refine r_region (T := TT) rfl ?_ | refine r_block (T := TT) ?_ | refine r_then (T := TT) rfl ?_ | refine r_else (T := TT) rfl ?_)
        exact r_fin (T := TT) rfl rfl
set_option maxHeartbeats 2000000 in
theorem ok_r23_Eval_div {a b : Ex} (henv : EnvOK (envF l)) (ho : okE a) (ho' : okE b) (hw : wtE a + wtE b ≤ 1000000) (ih : CallOK Tryz.prog 23 [dE a, dNm l, dVl l] (toRV (evE (envF l) a))) (ih' : CallOK Tryz.prog 23 [dE b, dNm l, dVl l] (toRV (evE (envF l) b))) : CallOK Tryz.prog 23 [dE (.bin .div a b), dNm l, dVl l] (toRV (evE (envF l) (.bin .div a b))) := by
  obtain ⟨o1, na1, xs1, nb1, ys1, nm1, n1, cs1, hA⟩ := aE_form a
  obtain ⟨o2, na2, xs2, nb2, ys2, nm2, n2, cs2, hB⟩ := aE_form b
  rw [show dE (.bin .div a b) = .agg ([.val (.int .i64 (B4.div).code)] ++ aQ0 ++ [.val (vL []), .sl 2 (aE a ++ aE b)]) from congrArg DV.agg (aE_bin .div a b), hA, hB]
  rw [show dE a = .agg (cell7 o1 na1 xs1 nb1 ys1 nm1 n1 cs1) from congrArg DV.agg hA] at ih
  rw [show dE b = .agg (cell7 o2 na2 xs2 nb2 ys2 nm2 n2 cs2) from congrArg DV.agg hB] at ih'
  cases ha : evE (envF l) a with
  | error z =>
    have hz := ev_err ha
    rw [ha] at ih
    rw [show evE (envF l) (.bin .div a b) = .error z by simp only [evE, ha]]
    refine callOK_of TT_ok mixT Tryz.func23 rfl rfl (Nat.le_of_ble_eq_true rfl) ?_
    repeat (first | refine r_op rfl rfl rfl rfl ?_ | refine r_skip rfl rfl rfl ?_ | refine .done ?_ | refine r_seq (T := TT) ?_ | refine r_region (T := TT) rfl ?_ | refine r_block (T := TT) ?_ | refine r_then (T := TT) rfl ?_ | refine r_else (T := TT) rfl ?_)
    refine r_idx (i := 0) (cs' := cell7 o1 na1 xs1 nb1 ys1 nm1 n1 cs1) (by decide) (arg_at2 _ _) (Nat.zero_lt_succ 6) rfl rfl rfl rfl rfl rfl rfl rfl ?_
    iterate 3 (first | refine r_op rfl rfl rfl rfl ?_ | refine r_skip rfl rfl rfl ?_)
    refine r_call (ih) rfl rfl rfl rfl rfl rfl rfl ?_
    repeat (first | refine r_op rfl rfl rfl rfl ?_ | refine r_skip rfl rfl rfl ?_ | refine .done ?_)
    repeat refine r_seq (T := TT) ?_
    refine r_region (T := TT) rfl ?_
    iterate 1 (first | refine r_op rfl rfl rfl rfl ?_ | refine r_skip rfl rfl rfl ?_)
    refine r_eq (v' := .bool true) rfl rfl rfl rfl ?_ ?_
    · exact congrArg Value.bool ((by simpa using hz))
    repeat (first | refine r_op rfl rfl rfl rfl ?_ | refine r_skip rfl rfl rfl ?_ | refine .done ?_ | refine r_seq (T := TT) ?_ | refine r_region (T := TT) rfl ?_ | refine r_block (T := TT) ?_ | refine r_then (T := TT) rfl ?_ | refine r_else (T := TT) rfl ?_)
    exact r_fin (T := TT) rfl rfl
  | ok x =>
    obtain ⟨hx, hpx⟩ := ev_ok henv ho ha
    rw [ha] at ih
    cases hb : evE (envF l) b with
    | error z =>
      have hz := ev_err hb
      rw [hb] at ih'
      rw [show evE (envF l) (.bin .div a b) = .error z by simp only [evE, ha, hb]]
      refine callOK_of TT_ok mixT Tryz.func23 rfl rfl (Nat.le_of_ble_eq_true rfl) ?_
      repeat (first | refine r_op rfl rfl rfl rfl ?_ | refine r_skip rfl rfl rfl ?_ | refine .done ?_ | refine r_seq (T := TT) ?_ | refine r_region (T := TT) rfl ?_ | refine r_block (T := TT) ?_ | refine r_then (T := TT) rfl ?_ | refine r_else (T := TT) rfl ?_)
      refine r_idx (i := 0) (cs' := cell7 o1 na1 xs1 nb1 ys1 nm1 n1 cs1) (by decide) (arg_at2 _ _) (Nat.zero_lt_succ 6) rfl rfl rfl rfl rfl rfl rfl rfl ?_
      iterate 3 (first | refine r_op rfl rfl rfl rfl ?_ | refine r_skip rfl rfl rfl ?_)
      refine r_call (ih) rfl rfl rfl rfl rfl rfl rfl ?_
      repeat (first | refine r_op rfl rfl rfl rfl ?_ | refine r_skip rfl rfl rfl ?_ | refine .done ?_ | refine r_seq (T := TT) ?_ | refine r_region (T := TT) rfl ?_ | refine r_block (T := TT) ?_ | refine r_then (T := TT) rfl ?_ | refine r_else (T := TT) rfl ?_)
      refine r_idx (i := 1) (cs' := cell7 o2 na2 xs2 nb2 ys2 nm2 n2 cs2) (by decide) (arg_at3 _ rfl) (Nat.zero_lt_succ 6) rfl rfl rfl rfl rfl rfl rfl rfl ?_
      iterate 3 (first | refine r_op rfl rfl rfl rfl ?_ | refine r_skip rfl rfl rfl ?_)
      refine r_call (ih') rfl rfl rfl rfl rfl rfl rfl ?_
      repeat (first | refine r_op rfl rfl rfl rfl ?_ | refine r_skip rfl rfl rfl ?_ | refine .done ?_)
      repeat refine r_seq (T := TT) ?_
      refine r_region (T := TT) rfl ?_
      iterate 1 (first | refine r_op rfl rfl rfl rfl ?_ | refine r_skip rfl rfl rfl ?_)
      refine r_eq (v' := .bool true) rfl rfl rfl rfl ?_ ?_
      · exact congrArg Value.bool ((by simpa using hz))
      repeat (first | refine r_op rfl rfl rfl rfl ?_ | refine r_skip rfl rfl rfl ?_ | refine .done ?_ | refine r_seq (T := TT) ?_ | refine r_region (T := TT) rfl ?_ | refine r_block (T := TT) ?_ | refine r_then (T := TT) rfl ?_ | refine r_else (T := TT) rfl ?_)
      exact r_fin (T := TT) rfl rfl
    | ok y =>
      obtain ⟨hy, hpy⟩ := ev_ok henv ho' hb
      rw [hb] at ih'
      have hR : evE (envF l) (.bin .div a b) = opR .div x.1 x.2 y.1 y.2 := by simp only [evE, ha, hb]
      rw [hR]
      show CallOK Tryz.prog _ _ (toRV (divR x.1 x.2 y.1 y.2))
      have c := ok_r23_Div hx hy (by omega) hpx hpy
      cases hr : divR x.1 x.2 y.1 y.2 with
      | error z =>
        rw [hr] at c
        refine callOK_of TT_ok mixT Tryz.func23 rfl rfl (Nat.le_of_ble_eq_true rfl) ?_
        repeat (first | refine r_op rfl rfl rfl rfl ?_ | refine r_skip rfl rfl rfl ?_ | refine .done ?_ | refine r_seq (T := TT) ?_ | refine r_region (T := TT) rfl ?_ | refine r_block (T := TT) ?_ | refine r_then (T := TT) rfl ?_ | refine r_else (T := TT) rfl ?_)
        refine r_idx (i := 0) (cs' := cell7 o1 na1 xs1 nb1 ys1 nm1 n1 cs1) (by decide) (arg_at2 _ _) (Nat.zero_lt_succ 6) rfl rfl rfl rfl rfl rfl rfl rfl ?_
        iterate 3 (first | refine r_op rfl rfl rfl rfl ?_ | refine r_skip rfl rfl rfl ?_)
        refine r_call (ih) rfl rfl rfl rfl rfl rfl rfl ?_
        repeat (first | refine r_op rfl rfl rfl rfl ?_ | refine r_skip rfl rfl rfl ?_ | refine .done ?_ | refine r_seq (T := TT) ?_ | refine r_region (T := TT) rfl ?_ | refine r_block (T := TT) ?_ | refine r_then (T := TT) rfl ?_ | refine r_else (T := TT) rfl ?_)
        refine r_idx (i := 1) (cs' := cell7 o2 na2 xs2 nb2 ys2 nm2 n2 cs2) (by decide) (arg_at3 _ rfl) (Nat.zero_lt_succ 6) rfl rfl rfl rfl rfl rfl rfl rfl ?_
        iterate 3 (first | refine r_op rfl rfl rfl rfl ?_ | refine r_skip rfl rfl rfl ?_)
        refine r_call (ih') rfl rfl rfl rfl rfl rfl rfl ?_
        repeat (first | refine r_op rfl rfl rfl rfl ?_ | refine r_skip rfl rfl rfl ?_ | refine .done ?_ | refine r_seq (T := TT) ?_ | refine r_region (T := TT) rfl ?_ | refine r_block (T := TT) ?_ | refine r_then (T := TT) rfl ?_ | refine r_else (T := TT) rfl ?_)
        refine r_call (c) rfl rfl rfl rfl rfl rfl rfl ?_
        repeat (first | refine r_op rfl rfl rfl rfl ?_ | refine r_skip rfl rfl rfl ?_ | refine .done ?_ | refine r_seq (T := TT) ?_ | refine r_region (T := TT) rfl ?_ | refine r_block (T := TT) ?_ | refine r_then (T := TT) rfl ?_ | refine r_else (T := TT) rfl ?_)
        exact r_fin (T := TT) rfl rfl
      | ok z =>
        rw [hr] at c
        refine callOK_of TT_ok mixT Tryz.func23 rfl rfl (Nat.le_of_ble_eq_true rfl) ?_
        repeat (first | refine r_op rfl rfl rfl rfl ?_ | refine r_skip rfl rfl rfl ?_ | refine .done ?_ | refine r_seq (T := TT) ?_ | refine r_region (T := TT) rfl ?_ | refine r_block (T := TT) ?_ | refine r_then (T := TT) rfl ?_ | refine r_else (T := TT) rfl ?_)
        refine r_idx (i := 0) (cs' := cell7 o1 na1 xs1 nb1 ys1 nm1 n1 cs1) (by decide) (arg_at2 _ _) (Nat.zero_lt_succ 6) rfl rfl rfl rfl rfl rfl rfl rfl ?_
        iterate 3 (first | refine r_op rfl rfl rfl rfl ?_ | refine r_skip rfl rfl rfl ?_)
        refine r_call (ih) rfl rfl rfl rfl rfl rfl rfl ?_
        repeat (first | refine r_op rfl rfl rfl rfl ?_ | refine r_skip rfl rfl rfl ?_ | refine .done ?_ | refine r_seq (T := TT) ?_ | refine r_region (T := TT) rfl ?_ | refine r_block (T := TT) ?_ | refine r_then (T := TT) rfl ?_ | refine r_else (T := TT) rfl ?_)
        refine r_idx (i := 1) (cs' := cell7 o2 na2 xs2 nb2 ys2 nm2 n2 cs2) (by decide) (arg_at3 _ rfl) (Nat.zero_lt_succ 6) rfl rfl rfl rfl rfl rfl rfl rfl ?_
        iterate 3 (first | refine r_op rfl rfl rfl rfl ?_ | refine r_skip rfl rfl rfl ?_)
        refine r_call (ih') rfl rfl rfl rfl rfl rfl rfl ?_
        repeat (first | refine r_op rfl rfl rfl rfl ?_ | refine r_skip rfl rfl rfl ?_ | refine .done ?_ | refine r_seq (T := TT) ?_ | refine r_region (T := TT) rfl ?_ | refine r_block (T := TT) ?_ | refine r_then (T := TT) rfl ?_ | refine r_else (T := TT) rfl ?_)
        refine r_call (c) rfl rfl rfl rfl rfl rfl rfl ?_
        repeat (first | refine r_op rfl rfl rfl rfl ?_ | refine r_skip rfl rfl rfl ?_ | refine .done ?_ | refine r_seq (T := TT) ?_ | refine r_region (T := TT) rfl ?_ | refine r_block (T := TT) ?_ | refine r_then (T := TT) rfl ?_ | refine r_else (T := TT) rfl ?_)
        exact r_fin (T := TT) rfl rfl
end
theorem ok_r23_Eval {l : EL} (hl : l.length ≤ 1000000) (hv : ∀ x ∈ l, SzQ 8 x.2.1 ∧ inP x.2.2 = true) : ∀ e, okE e → wtE e ≤ 1000000 → CallOK Tryz.prog 23 [dE e, dNm l, dVl l] (toRV (evE (envF l) e))
  | .num _ _, ho, _ => ok_r23_Eval_num ho
  | .nam _, _, _ => ok_r23_Eval_nam hl
  | .neg a, ho, hw => ok_r23_Eval_neg (ok_r23_Eval hl hv a ho hw)
  | .bin .add a b, ho, hw => by
    have hw' : wtE a + wtE b + 1 ≤ 1000000 := hw
    exact ok_r23_Eval_add (env_of hv) ho.1 ho.2 (by omega) (ok_r23_Eval hl hv a ho.1 (by omega)) (ok_r23_Eval hl hv b ho.2 (by omega))
  | .bin .sub a b, ho, hw => by
    have hw' : wtE a + wtE b + 1 ≤ 1000000 := hw
    exact ok_r23_Eval_sub (env_of hv) ho.1 ho.2 (by omega) (ok_r23_Eval hl hv a ho.1 (by omega)) (ok_r23_Eval hl hv b ho.2 (by omega))
  | .bin .mul a b, ho, hw => by
    have hw' : wtE a + wtE b + 1 ≤ 1000000 := hw
    exact ok_r23_Eval_mul (env_of hv) ho.1 ho.2 (by omega) (ok_r23_Eval hl hv a ho.1 (by omega)) (ok_r23_Eval hl hv b ho.2 (by omega))
  | .bin .div a b, ho, hw => by
    have hw' : wtE a + wtE b + 1 ≤ 1000000 := hw
    exact ok_r23_Eval_div (env_of hv) ho.1 ho.2 (by omega) (ok_r23_Eval hl hv a ho.1 (by omega)) (ok_r23_Eval hl hv b ho.2 (by omega))
end Go.Proofs.YtmpadildchphgaaGreatDoor
namespace Go.Proofs.YtmpadildchphgaaGreatDoor
open Go.ChangeShapes Go.WideShapes Go.ChangeAt Go.RowKit Go.Joins
def avF {H : Type} : Nat → DataW H → Option (List AV)
  | 0, _ => none
  | n + 1, d => match d with
    | .lit (.bool b) => some [.val (.bool b)]
    | .lit (.int k i) => some [.val (.int k i)]
    | .lit (.string l) => some [.val (.string ⟨l.toArray⟩)]
    | .nil => some [.sl 0 []]
    | .slice es _ => match mapO (avF n) es with
      | some rows => some [.sl rows.length rows.flatten]
      | none => none
    | .agg es => match mapO (avF n) es with
      | some ps => some ps.flatten
      | none => none
    | _ => none
theorem mapO_ext {α β : Type} {f g : α → Option β} : ∀ {xs : List α} {ys zs : List β}, (∀ x ∈ xs, ∀ y z, f x = some y → g x = some z → y = z) → mapO f xs = some ys → mapO g xs = some zs → ys = zs
  | [], ys, zs, _, h, k => by simp only [mapO, Option.some.injEq] at h k; rw [← h, ← k]
  | x :: xs, ys, zs, hfg, h, k => by
    simp only [mapO] at h k
    cases h1 : f x with
    | none => rw [h1] at h; simp at h
    | some y =>
      cases h2 : mapO f xs with
      | none => rw [h1, h2] at h; simp at h
      | some ys' =>
        cases k1 : g x with
        | none => rw [k1] at k; simp at k
        | some z =>
          cases k2 : mapO g xs with
          | none => rw [k1, k2] at k; simp at k
          | some zs' =>
            rw [h1, h2] at h
            rw [k1, k2] at k
            simp only [Option.some.injEq] at h k
            rw [← h, ← k, hfg x (by simp) y z h1 k1, mapO_ext (fun x hx => hfg x (by simp [hx])) h2 k2]
theorem avF_det {H : Type} : ∀ (n m : Nat) (d : DataW H) (cs cs' : List AV), avF n d = some cs → avF m d = some cs' → cs = cs'
  | 0, _, _, _, _, h, _ => by simp [avF] at h
  | _ + 1, 0, _, _, _, _, h => by simp [avF] at h
  | n + 1, m + 1, d, cs, cs', h, h' => by
    have ih := avF_det (H := H) n m
    unfold avF at h h'
    split at h
    · simp_all
    · simp_all
    · simp_all
    · simp_all
    · simp only at h'
      split at h
      · split at h'
        · rename_i r1 h1 _ r2 h2
          have := mapO_ext (fun x _ y z => ih x y z) h1 h2
          subst this
          rw [← Option.some.inj h, ← Option.some.inj h']
        · cases h'
      · cases h
    · simp only at h'
      split at h
      · split at h'
        · rename_i r1 h1 _ r2 h2
          have := mapO_ext (fun x _ y z => ih x y z) h1 h2
          subst this
          rw [← Option.some.inj h, ← Option.some.inj h']
        · cases h'
      · cases h
    · cases h
theorem mapO_of {α β : Type} {f : α → Option β} : ∀ {xs : List α} {ys : List β}, xs.length = ys.length → (∀ (i : Nat) (x : α) (y : β), xs[i]? = some x → ys[i]? = some y → f x = some y) → mapO f xs = some ys
  | [], [], _, _ => rfl
  | [], _ :: _, h, _ => by cases h
  | _ :: _, [], h, _ => by cases h
  | x :: xs, y :: ys, h, hf => by
    simp only [mapO, hf 0 x y rfl rfl, mapO_of (xs := xs) (ys := ys) (by simpa using h) (fun i x y h1 h2 => hf (i + 1) x y (by simpa using h1) (by simpa using h2))]
def plainA (P : Program) (L : List TypeId) : Bool := L.all fun t => match P.underlying t with
  | some .bool => true
  | some (.int _) => true
  | some .string => true
  | some (.slice e) => L.elem e
  | some (.struct fs) => (fs.toList.all fun f => L.elem f.type) && tileB P 0 (P.cellsOf t) fs.toList
  | some (.array n e) => L.elem e && Nat.beq (n * P.cellsOf e) (P.cellsOf t)
  | _ => false
theorem flat_cm {w : World} {sz : Nat} : ∀ (n : Nat) (vs : List Value) (ps : List (List AV)), vs.length = n * sz → ps.length = n → (∀ i p, ps[i]? = some p → CM (fun _ => False) w p ((vs.drop (i * sz)).take sz)) → CM (fun _ => False) w ps.flatten vs
  | 0, vs, ps, h, hp, _ => by
    have h1 : vs = [] := List.eq_nil_of_length_eq_zero (by simpa using h)
    have h2 : ps = [] := List.eq_nil_of_length_eq_zero hp
    subst h1 h2
    exact CM.nil _ _
  | n + 1, vs, [], _, hp, _ => by cases hp
  | n + 1, vs, p :: ps, h, hp, hc => by
    have h0 := hc 0 p rfl
    rw [Nat.zero_mul, List.drop_zero] at h0
    have hr := flat_cm (w := w) (sz := sz) n (vs.drop sz) ps (by rw [List.length_drop, h, Nat.add_mul]; omega) (by simpa using hp) (fun i q hq => by
      have := hc (i + 1) q (by simpa using hq)
      rw [List.drop_drop, show sz + i * sz = (i + 1) * sz by rw [Nat.add_mul]; omega]
      exact this)
    rw [List.flatten_cons]
    have := h0.append hr
    rwa [List.take_append_drop] at this
theorem tile_flat {P : Program} {w : World} {vs : List Value} : ∀ (fs : List Field) (off : Nat) (ps : List (List AV)), tileB P off vs.length fs = true → ps.length = fs.length →
    (∀ (i : Nat) (f : Field) (p : List AV), fs[i]? = some f → ps[i]? = some p → CM (fun _ => False) w p ((vs.drop f.offset).take (P.cellsOf f.type))) → CM (fun _ => False) w ps.flatten (vs.drop off)
  | [], off, [], h, _, _ => by
    have := Nat.eq_of_beq_eq_true h
    subst this
    rw [List.drop_length]
    exact CM.nil _ _
  | [], _, _ :: _, _, h, _ => by cases h
  | _ :: _, _, [], _, h, _ => by cases h
  | f :: r, off, p :: ps, h, hl, hf => by
    simp only [tileB, Bool.and_eq_true] at h
    have ho := Nat.eq_of_beq_eq_true h.1
    have h1 := hf 0 f p rfl rfl
    have h3 := tile_flat r _ ps h.2 (by simpa using hl) (fun i g q hg hq => hf (i + 1) g q (by simpa using hg) (by simpa using hq))
    rw [ho] at h1
    rw [List.flatten_cons]
    have := h1.append h3
    rwa [← List.drop_drop, List.take_append_drop] at this
section
variable {H : Type} {enc : TypeId × Value → H} {W : World} {P : Program} {held : Bool}
theorem trod_av {L : List TypeId} (hL : plainA P L = true) : ∀ (n : Nat) (t : TypeId) (vs : List Value) (x : DataW H × List MemPlace), t ∈ L → DataW.trod enc P W 0 (fun _ => true) held n t vs = some x →
    ∃ cs, CM (fun _ => False) W cs vs ∧ avF n x.1 = some cs := by
  intro n
  induction n with
  | zero => intro t vs x _ h; simp [DataW.trod] at h
  | succ n ih =>
    intro t vs x ht h
    have hp := List.all_eq_true.1 hL t ht
    cases hu : P.underlying t with
    | none => rw [hu] at hp; simp at hp
    | some d =>
      rw [hu] at hp
      cases d with
      | bool =>
        obtain ⟨b, rfl, rfl⟩ := DataW.trod_bool hu h
        exact ⟨_, CM.cons (.val rfl) (CM.nil _ _), rfl⟩
      | int k =>
        obtain ⟨i, rfl, rfl, h1⟩ := DataW.trod_int hu h
        exact ⟨_, CM.cons (.val rfl) (CM.nil _ _), rfl⟩
      | string =>
        obtain ⟨s, rfl, rfl, h1⟩ := DataW.trod_string hu h
        exact ⟨_, CM.cons (.val rfl) (CM.nil _ _), by simp [avF]⟩
      | slice e =>
        have he : e ∈ L := by simpa using hp
        rcases DataW.trod_slice hu h with ⟨rfl, rfl⟩ | ⟨a, len, cap, elems, rest, m, hm, rfl, rfl, _, hlc, hcm, hel, hget, _, _⟩
        · exact ⟨_, CM.cons (.emp (Nat.le_refl _) (by omega) (fun _ => rfl)) (CM.nil _ _), rfl⟩
        · obtain rfl : m = n := by omega
          have hrow : ∀ i, i < len → ∃ (r : List AV) (us : List Value), W.cells? 0 (a.add (i * P.cellsOf e)) (P.cellsOf e) = some us ∧ CM (fun _ => False) W r us ∧ ∀ y, elems[i]? = some y → avF m y.1 = some r := by
            intro i hi
            have h1 := hget i hi
            have h2 : elems[i]? = some elems[i] := by simp
            rw [h2] at h1
            obtain ⟨us, h3, h4⟩ := Option.bind_eq_some_iff.1 h1
            obtain ⟨r, h5, h6⟩ := ih e us _ he h4
            exact ⟨r, us, h3, h5, fun y hy => by rw [h2] at hy; cases hy; exact h6⟩
          have hrows : ∀ k, k ≤ len → ∃ rows : List (List AV), rows.length = k ∧ ∀ i r, rows[i]? = some r → ∃ us : List Value, W.cells? 0 (a.add (i * P.cellsOf e)) (P.cellsOf e) = some us ∧ CM (fun _ => False) W r us ∧ ∀ y, elems[i]? = some y → avF m y.1 = some r := by
            intro k
            induction k with
            | zero => intro _; exact ⟨[], rfl, fun i r h => by simp at h⟩
            | succ k ihk =>
              intro hk
              obtain ⟨rows, h1, h2⟩ := ihk (by omega)
              obtain ⟨r, us, h3, h4, h5⟩ := hrow k (by omega)
              refine ⟨rows ++ [r], by simp [h1], fun i q hq => ?_⟩
              by_cases hi : i < rows.length
              · rw [List.getElem?_append_left hi] at hq; exact h2 i q hq
              · have hil := (List.getElem?_eq_some_iff.1 hq).1
                simp at hil
                have : i = k := by omega
                subst this
                rw [List.getElem?_append_right (by omega), h1, Nat.sub_self] at hq
                simp at hq
                subst hq
                exact ⟨us, h3, h4, h5⟩
          obtain ⟨rows, hl, hr⟩ := hrows len (Nat.le_refl _)
          have hmap : mapO (avF m) (elems.map (·.1)) = some rows := by
            refine mapO_of (by simp [hel, hl]) (fun i y r hy h2 => ?_)
            rw [List.getElem?_map] at hy
            cases hz : elems[i]? with
            | none => rw [hz] at hy; cases hy
            | some z =>
              rw [hz] at hy
              simp only [Option.map_some, Option.some.injEq] at hy
              obtain ⟨_, _, _, h5⟩ := hr i r h2
              rw [← hy]; exact h5 z hz
          have hsz : ∀ r ∈ rows, r.length = P.cellsOf e := by
            intro r hm
            obtain ⟨i, hi⟩ := List.getElem?_of_mem hm
            obtain ⟨us, h3, h4, _⟩ := hr i r hi
            rw [h4.1, (cells_at h3).1]
          refine ⟨[.sl len rows.flatten], CM.cons ?_ (CM.nil _ _), by simp only [avF, hmap, hl]⟩
          exact sl_of (rows := rows) (by unfold maxLen at hcm; omega) hlc hl hsz (fun i r hi => by obtain ⟨us, h3, h4, _⟩ := hr i r hi; exact ⟨us, h3, h4⟩)
      | struct fs =>
        simp only [Bool.and_eq_true] at hp
        obtain ⟨xs, m, hm, rfl, hlen, hxl, hget⟩ := DataW.trod_struct hu h
        obtain rfl : m = n := by omega
        have htile := hp.2
        rw [← hlen] at htile
        have hpart : ∀ k, k ≤ xs.length → ∃ ps : List (List AV), ps.length = k ∧ ∀ (i : Nat) (p : List AV) (f : Field), ps[i]? = some p → fs[i]? = some f → CM (fun _ => False) W p ((vs.drop f.offset).take (P.cellsOf f.type)) ∧ ∀ y : DataW H × List MemPlace, xs[i]? = some y → avF m y.1 = some p := by
          intro k
          induction k with
          | zero => intro _; exact ⟨[], rfl, fun i p f h => by simp at h⟩
          | succ k ihk =>
            intro hk
            obtain ⟨ps, h1, h2⟩ := ihk (by omega)
            have hkf : fs[k]? = some (fs[k]'(by omega)) := by simp
            have h3 := hget k _ hkf
            have h4 : xs[k]? = some xs[k] := by simp
            rw [h4] at h3
            have hfL : fs[k].type ∈ L := by have := List.all_eq_true.1 hp.1 fs[k] (by simp); simpa using this
            obtain ⟨p, h5, h6⟩ := ih _ _ _ hfL h3
            refine ⟨ps ++ [p], by simp [h1], fun i q f hq hf => ?_⟩
            by_cases hi : i < ps.length
            · rw [List.getElem?_append_left hi] at hq; exact h2 i q f hq hf
            · have hil := (List.getElem?_eq_some_iff.1 hq).1
              simp at hil
              have : i = k := by omega
              subst this
              rw [List.getElem?_append_right (by omega), h1, Nat.sub_self] at hq
              simp at hq
              subst hq
              rw [hkf] at hf
              cases hf
              exact ⟨h5, fun y hy => by rw [h4] at hy; cases hy; exact h6⟩
        obtain ⟨ps, h1, h2⟩ := hpart xs.length (Nat.le_refl _)
        refine ⟨ps.flatten, ?_, ?_⟩
        · have := tile_flat (w := W) (vs := vs) fs.toList 0 ps htile (by rw [h1, hxl]; simp) (fun i f p hf hp => (h2 i p f hp (by simpa using hf)).1)
          rwa [List.drop_zero] at this
        · have hmap : mapO (avF m) (xs.map (·.1)) = some ps := by
            refine mapO_of (by simp [h1]) (fun i y p hy hpi => ?_)
            rw [List.getElem?_map] at hy
            cases hz : xs[i]? with
            | none => rw [hz] at hy; cases hy
            | some z =>
              rw [hz] at hy
              simp only [Option.map_some, Option.some.injEq] at hy
              have hil : i < fs.size := by rw [← hxl]; exact (List.getElem?_eq_some_iff.1 hz).1
              rw [← hy]
              exact (h2 i p fs[i] hpi (by simp [hil])).2 z hz
          simp only [avF, hmap]
      | array k e =>
        simp only [Bool.and_eq_true] at hp
        have he : e ∈ L := by simpa using hp.1
        have hke := Nat.eq_of_beq_eq_true hp.2
        unfold DataW.trod at h
        rw [hu] at h
        simp only at h
        have hr : ∃ xs : List (DataW H × List MemPlace), x.1 = .agg (xs.map (·.1)) ∧ vs.length = P.cellsOf t ∧ (List.range k).mapM (fun i => DataW.trod enc P W 0 (fun _ => true) held n e ((vs.drop (i * P.cellsOf e)).take (P.cellsOf e))) = some xs := by
          split at h
          · rename_i hl
            obtain ⟨xs, h1, h2⟩ := Option.map_eq_some_iff.1 h
            exact ⟨xs, by rw [← h2], hl, h1⟩
          · cases h
        obtain ⟨xs, hx, hlen, hmm⟩ := hr
        obtain ⟨h1, h2⟩ := mapM_get hmm
        rw [List.length_range] at h1
        have hpart : ∀ j, j ≤ k → ∃ ps : List (List AV), ps.length = j ∧ ∀ (i : Nat) (p : List AV), ps[i]? = some p → CM (fun _ => False) W p ((vs.drop (i * P.cellsOf e)).take (P.cellsOf e)) ∧ ∀ y : DataW H × List MemPlace, xs[i]? = some y → avF n y.1 = some p := by
          intro j
          induction j with
          | zero => intro _; exact ⟨[], rfl, fun i p h => by simp at h⟩
          | succ j ihj =>
            intro hj
            obtain ⟨ps, h3, h4⟩ := ihj (by omega)
            obtain ⟨y, h5, h6⟩ := h2 j j (List.getElem?_range (by omega))
            obtain ⟨p, h7, h8⟩ := ih _ _ _ he h6
            refine ⟨ps ++ [p], by simp [h3], fun i q hq => ?_⟩
            by_cases hi : i < ps.length
            · rw [List.getElem?_append_left hi] at hq; exact h4 i q hq
            · have hil := (List.getElem?_eq_some_iff.1 hq).1
              simp at hil
              have : i = j := by omega
              subst this
              rw [List.getElem?_append_right (by omega), h3, Nat.sub_self] at hq
              simp at hq
              subst hq
              exact ⟨h7, fun z hz => by rw [h5] at hz; cases hz; exact h8⟩
        obtain ⟨ps, h3, h4⟩ := hpart k (Nat.le_refl _)
        refine ⟨ps.flatten, flat_cm k vs ps (by rw [hlen, ← hke]) h3 (fun i p hp => (h4 i p hp).1), ?_⟩
        have hmap : mapO (avF n) (xs.map (·.1)) = some ps := by
          refine mapO_of (by simp [h3, ← h1]) (fun i y p hy hpi => ?_)
          rw [List.getElem?_map] at hy
          cases hz : xs[i]? with
          | none => rw [hz] at hy; cases hy
          | some z =>
            rw [hz] at hy
            simp only [Option.map_some, Option.some.injEq] at hy
            rw [← hy]
            exact (h4 i p hpi).2 z hz
        rw [hx]
        simp only [avF, hmap]
      | _ => simp at hp
end
end Go.Proofs.YtmpadildchphgaaGreatDoor
namespace Go.Proofs.YtmpadildchphgaaGreatDoor
open Go.ChangeShapes Go.WideShapes Go.ChangeAt Go.RowKit Go.Joins
theorem laidVars_mem {P : Program} {W : World} {name : String} {d : DataW Unit} : ∀ {laid : List (String × DataW Unit)} {ps : List MemPlace}, DataW.LaidVars P W laid ps → (name, d) ∈ laid →
    ∃ g t cs fuel p, P.globalNamed name = some g ∧ (P.globals[g]?).map (·.type) = some t ∧ W.var? P name = some cs ∧ DataW.trod (fun _ => ()) P W 0 (fun _ => true) false fuel t cs.toList = some (d, p)
  | [], _, _, h => by cases h
  | (n, d') :: rest, ps, h, hm => by
    obtain ⟨g, t, cs, fuel, p, q, h1, h2, h3, h4, h5, _⟩ := h
    rcases List.mem_cons.1 hm with e | e
    · cases e
      exact ⟨g, t, cs, fuel, p, h1, h2, h3, h4⟩
    · exact laidVars_mem h5 e
theorem cells_u64 : Tryz.prog.cellsOf 98 = 1 := by kernel_rfl
theorem pow10_g : Tryz.prog.globalNamed "internal/strconv.uint64pow10" = some 1 := by kernel_rfl
theorem pow10_t : (Tryz.prog.globals[1]?).map (·.type) = some 158 := by kernel_rfl
theorem pow10_c : Tryz.prog.cellsOf 158 = 20 := by kernel_rfl
theorem laid_gl {P : Program} {W : World} {laid : List (String × DataW Unit)} {ps : List MemPlace} (hv : DataW.LaidVars P W laid ps) {name : String} {d : DataW Unit} (hm : (name, d) ∈ laid) {g t : Nat} (hg : P.globalNamed name = some g) (ht : (P.globals[g]?).map (·.type) = some t)
    {L : List TypeId} (hL : plainA P L = true) (htL : t ∈ L) {n : Nat} {cs : List AV} (hav : avF n d = some cs) {S : Nat → Prop} (hS : S = fun _ => False) : TV.M S (fun _ => 0) ⟨[], []⟩ W (.rp cs) (.pointer (some ⟨g, 0, none⟩)) := by
  subst hS
  obtain ⟨g', t', c0, fuel, p, h1, h2, h3, h4⟩ := laidVars_mem hv hm
  obtain rfl := Option.some.inj (hg.symm.trans h1)
  obtain rfl := Option.some.inj (ht.symm.trans h2)
  obtain ⟨cs', hc, ha⟩ := trod_av hL fuel _ _ _ htL h4
  have e := avF_det _ _ _ _ _ ha hav
  subst e
  unfold World.var? at h3
  rw [hg] at h3
  simp only [Option.bind_some] at h3
  split at h3
  · rename_i c1 e1 f1 hb
    cases h3
    refine ⟨g, 0, fun i => c0.getD i undef, rfl, fun h => h, (Array.getElem?_eq_some_iff.1 hb).1, fun i a hi => ?_, fun i a hi => ?_⟩
    · have hl : i < c0.size := by have := (List.getElem?_eq_some_iff.1 hi).1; rw [hc.1] at this; simpa using this
      rw [Nat.zero_add]
      simp [World.cell?, hb, hl]
    · have hl : i < c0.size := by have := (List.getElem?_eq_some_iff.1 hi).1; rw [hc.1] at this; simpa using this
      exact hc.2 i a _ hi (by simp [hl])
  · cases h3
theorem look_one {α : Type} {g : Nat} {c : α} {r : List (Nat × α)} {k : Nat} {x : α} (h : look ((g, c) :: r) k = some x) : (g = k ∧ c = x) ∨ look r k = some x := by
  by_cases e : g = k
  · subst e; rw [look_same] at h; exact .inl ⟨rfl, Option.some.inj h⟩
  · rw [look_ne _ _ e] at h; exact .inr h
theorem units_g : Tryz.prog.globalNamed "setsquare/unit.units" = some 0 := by kernel_rfl
theorem units_t : (Tryz.prog.globals[0]?).map (·.type) = some 81 := by kernel_rfl
theorem units_L : plainA Tryz.prog [81, 82, 9, 2] = true := by kernel_rfl
theorem tabs_of {laid : List (String × DataW Unit)} (hp : (laid.all fun x => x.2.handleName?.isNone) = true) (hm : ("internal/strconv.uint64pow10", Rows.laid_internal_strconv_uint64pow10) ∈ laid)
    (hm1 : ("setsquare/unit.units", Rows.laid_setsquare_unit_units) ∈ laid)
    {W : World} (h : laidMetH Tryz.prog laid W) : NoWord (fun _ => False) W := by
  rw [MakeChecks.laidMetH_plain _ _ _ hp] at h
  obtain ⟨ps, hv, _⟩ := h
  obtain ⟨g, t, cs, fuel, p, h1, h2, h3, h4⟩ := laidVars_mem hv hm
  obtain rfl := Option.some.inj (pow10_g.symm.trans h1)
  obtain rfl := Option.some.inj (pow10_t.symm.trans h2)
  have hd : (Rows.laid_internal_strconv_uint64pow10 : DataW Unit) = Lib.tabData .u64 Lib.pow10Tab := rfl
  rw [hd] at h4
  have ht : Lib.TabIs Tryz.prog W "internal/strconv.uint64pow10" .u64 Lib.pow10Tab := by
    unfold Lib.TabIs
    rw [h3, ← Lib.cells_of_tab Tryz.underlying158 Tryz.underlying98 cells_u64 pow10_c h4]
  refine ⟨Lib.tabBelow_of_tabIs ht, fun _ h => h.elim, fun k cs h => ?_⟩
  unfold GT at h
  rcases look_one h with ⟨rfl, rfl⟩ | h
  · exact laid_gl hv hm1 units_g units_t units_L (by simp) (n := 4) rfl rfl
  cases h
end Go.Proofs.YtmpadildchphgaaGreatDoor
namespace Go.Proofs.YtmpadildchphgaaGreatDoor
open Go.ChangeShapes Go.WideShapes Go.ChangeAt Go.RowKit Go.Joins
theorem divInt_is {n d a : Int} {b : Nat} (hd : d ≠ 0) (hb : b ≠ 0) (hc : Nat.Coprime a.natAbs b) (h : n * b = a * d) : Rat.divInt n d = ⟨a, b, hb, hc⟩ := by
  have h1 := Rat.num_divInt_den (⟨a, b, hb, hc⟩ : Rat)
  rw [← h1, Rat.divInt_eq_divInt_iff hd (by show (b : Int) ≠ 0; omega)]
  exact h
theorem dec_lt10 {n : Nat} (h0 : n ≠ 0) (h : n < 10) : dec n = [dg n] := by rw [dec_pos h0, show n / 10 = 0 by omega, dec_zero, show n % 10 = n by omega]; rfl
end Go.Proofs.YtmpadildchphgaaGreatDoor
namespace Go.Proofs.YtmpadildchphgaaGreatDoor
open Go.ChangeShapes Go.WideShapes Go.ChangeAt Go.RowKit Go.Joins
theorem szQ1 {q : Rat} (h1 : q.num.natAbs < 4294967296) (h2 : (q.den : Int).natAbs < 4294967296) : SzQ 1 q := ⟨.small h1, .small h2⟩
end Go.Proofs.YtmpadildchphgaaGreatDoor
namespace Go.Proofs.YtmpadildchphgaaGreatDoor
open Go.RowKit
theorem ok_l23_number (n : Int) (h1 : -9223372036854775808 ≤ n) (h2 : n < 9223372036854775808) (u : List UInt8) : CallOK Tryz.prog 40 [dN .i64 n, dL u] (.one (dE (.num (n : Rat) u))) := by
  refine callOK_of TT_ok mixT Tryz.func40 rfl rfl (Nat.le_of_ble_eq_true rfl) ?_
  repeat (first | refine r_op rfl rfl rfl rfl ?_ | refine r_skip rfl rfl rfl ?_ | refine .done ?_ | refine r_seq (T := TT) ?_ | refine r_region (T := TT) rfl ?_ | refine r_block (T := TT) ?_ | refine r_then (T := TT) rfl ?_ | refine r_else (T := TT) rfl ?_)
  refine r_call (ok_r2_FromInt n h1 h2 (q := (n : Rat)) rfl) rfl rfl rfl rfl rfl rfl rfl ?_
  repeat (first | refine r_op rfl rfl rfl rfl ?_ | refine r_skip rfl rfl rfl ?_ | refine .done ?_ | refine r_seq (T := TT) ?_ | refine r_region (T := TT) rfl ?_ | refine r_block (T := TT) ?_ | refine r_then (T := TT) rfl ?_ | refine r_else (T := TT) rfl ?_)
  exact r_fin (T := TT) rfl rfl
theorem sorted_nil : Sorted [] := fun i j a b _ h => by simp at h
theorem int_sz8 {n : Int} (h : n.natAbs < 4294967296) : SzQ 8 (n : Rat) := ⟨(Sz.small h).mono (by decide), (Sz.small (z := 1) (by decide)).mono (by decide)⟩
theorem ok_eval_nil (e : Ex) (ho : okE e) (hw : wtE e ≤ 1000000) {r : QR} (hr : evE (fun _ => none) e = r) : CallOK Tryz.prog 22 [dE e, dNm [], dVl []] (toRV r) := by
  have := ok_u_Eval sorted_nil (by decide) (fun x h => by cases h) e ho hw
  rw [← hr]
  exact this
theorem ok_l23_awake : CallOK Tryz.prog 10 [] (.one (dB true)) := by
  have f1 : fac [105, 110] = some (Rat.divInt 127 5) := rfl
  have f2 : fac [99, 109] = some ((10 : Int) : Rat) := rfl
  have f3 : fac [109, 109] = some ((1 : Int) : Rat) := rfl
  have a1 : ((2 : Int) : Rat) * Rat.divInt 127 5 = Rat.divInt 254 5 := by rw [← divInt_one, Rat.divInt_mul_divInt]; rfl
  have a2 : ((1 : Int) : Rat) * ((10 : Int) : Rat) + ((5 : Int) : Rat) * ((1 : Int) : Rat) = ((15 : Int) : Rat) := by rw [← Rat.intCast_mul, ← Rat.intCast_mul, ← Rat.intCast_add]; rfl
  have c1 := ok_eval_nil (.num ((2 : Int) : Rat) [105, 110]) (int_sz8 (by decide)) (by decide) (r := .ok (Rat.divInt 254 5, 1)) (by simp only [evE, f1, a1]; rfl)
  have c2 := ok_eval_nil (.bin .add (.num ((1 : Int) : Rat) [99, 109]) (.num ((5 : Int) : Rat) [109, 109])) ⟨int_sz8 (by decide), int_sz8 (by decide)⟩ (by decide) (r := .ok (((15 : Int) : Rat), 1)) (by
    have e1 : evE (fun _ => none) (.num ((1 : Int) : Rat) [99, 109]) = .ok (((1 : Int) : Rat) * ((10 : Int) : Rat), 1) := by simp only [evE, f2]; rfl
    have e2 : evE (fun _ => none) (.num ((5 : Int) : Rat) [109, 109]) = .ok (((5 : Int) : Rat) * ((1 : Int) : Rat), 1) := by simp only [evE, f3]; rfl
    have : evE (fun _ => none) (.bin .add (.num ((1 : Int) : Rat) [99, 109]) (.num ((5 : Int) : Rat) [109, 109])) = addR (((1 : Int) : Rat) * ((10 : Int) : Rat)) 1 (((5 : Int) : Rat) * ((1 : Int) : Rat)) 1 := by rw [evE, e1, e2]; rfl
    rw [this, addR, if_pos rfl, a2])
  have c3 := ok_eval_nil (.bin .add (.num ((1 : Int) : Rat) [99, 109]) (.num ((5 : Int) : Rat) [])) ⟨int_sz8 (by decide), int_sz8 (by decide)⟩ (by decide) (r := .error 8) (by
    have e1 : evE (fun _ => none) (.num ((1 : Int) : Rat) [99, 109]) = .ok (((1 : Int) : Rat) * ((10 : Int) : Rat), 1) := by simp only [evE, f2]; rfl
    have e2 : evE (fun _ => none) (.num ((5 : Int) : Rat) []) = .ok (((5 : Int) : Rat), 0) := rfl
    have : evE (fun _ => none) (.bin .add (.num ((1 : Int) : Rat) [99, 109]) (.num ((5 : Int) : Rat) [])) = addR (((1 : Int) : Rat) * ((10 : Int) : Rat)) 1 ((5 : Int) : Rat) 0 := by rw [evE, e1, e2]; rfl
    rw [this, addR, if_neg (by decide)])
  have hs1 : SzQ 8 (Rat.divInt 254 5) := .divInt ((Sz.small (by decide)).mono (by decide)) ((Sz.small (by decide)).mono (by decide)) (by decide)
  have t1 : fmtQt ⟨1, 2, by decide, by decide⟩ (-1) = [49, 47, 50, 32, 109, 109, 94, 45, 49] := by
    unfold fmtQt fmtQ fmt
    simp [dec_lt10]
    decide
  refine callOK_of TT_ok mixT Tryz.func10 rfl rfl (Nat.le_of_ble_eq_true rfl) ?_
  repeat (first | refine r_op rfl rfl rfl rfl ?_ | refine r_skip rfl rfl rfl ?_ | refine .done ?_ | refine r_seq (T := TT) ?_ | refine r_region (T := TT) rfl ?_ | refine r_block (T := TT) ?_ | refine r_then (T := TT) rfl ?_ | refine r_else (T := TT) rfl ?_)
  refine r_call (ok_l23_number 2 (by decide) (by decide) [105, 110]) rfl rfl rfl rfl rfl rfl rfl ?_
  refine r_call (c1) rfl rfl rfl rfl rfl rfl rfl ?_
  repeat (first | refine r_op rfl rfl rfl rfl ?_ | refine r_skip rfl rfl rfl ?_ | refine .done ?_ | refine r_seq (T := TT) ?_ | refine r_region (T := TT) rfl ?_ | refine r_block (T := TT) ?_ | refine r_then (T := TT) rfl ?_ | refine r_else (T := TT) rfl ?_)
  refine r_call (ok_l23_number 1 (by decide) (by decide) [99, 109]) rfl rfl rfl rfl rfl rfl rfl ?_
  refine r_call (ok_l23_number 5 (by decide) (by decide) [109, 109]) rfl rfl rfl rfl rfl rfl rfl ?_
  repeat (first | refine r_op rfl rfl rfl rfl ?_ | refine r_skip rfl rfl rfl ?_ | refine .done ?_ | refine r_seq (T := TT) ?_ | refine r_region (T := TT) rfl ?_ | refine r_block (T := TT) ?_ | refine r_then (T := TT) rfl ?_ | refine r_else (T := TT) rfl ?_)
  refine r_call (c2) rfl rfl rfl rfl rfl rfl rfl ?_
  repeat (first | refine r_op rfl rfl rfl rfl ?_ | refine r_skip rfl rfl rfl ?_ | refine .done ?_ | refine r_seq (T := TT) ?_ | refine r_region (T := TT) rfl ?_ | refine r_block (T := TT) ?_ | refine r_then (T := TT) rfl ?_ | refine r_else (T := TT) rfl ?_)
  refine r_call (ok_l23_number 1 (by decide) (by decide) [99, 109]) rfl rfl rfl rfl rfl rfl rfl ?_
  refine r_call (ok_l23_number 5 (by decide) (by decide) []) rfl rfl rfl rfl rfl rfl rfl ?_
  repeat (first | refine r_op rfl rfl rfl rfl ?_ | refine r_skip rfl rfl rfl ?_ | refine .done ?_ | refine r_seq (T := TT) ?_ | refine r_region (T := TT) rfl ?_ | refine r_block (T := TT) ?_ | refine r_then (T := TT) rfl ?_ | refine r_else (T := TT) rfl ?_)
  refine r_call (c3) rfl rfl rfl rfl rfl rfl rfl ?_
  repeat (first | refine r_op rfl rfl rfl rfl ?_ | refine r_skip rfl rfl rfl ?_ | refine .done ?_ | refine r_seq (T := TT) ?_ | refine r_region (T := TT) rfl ?_ | refine r_block (T := TT) ?_ | refine r_then (T := TT) rfl ?_ | refine r_else (T := TT) rfl ?_)
  refine r_call (ok_r2_Frac 254 5 (by decide) (by decide) (by decide) (by decide) (q := Rat.divInt 254 5) rfl) rfl rfl rfl rfl rfl rfl rfl ?_
  repeat (first | refine r_op rfl rfl rfl rfl ?_ | refine r_skip rfl rfl rfl ?_ | refine .done ?_ | refine r_seq (T := TT) ?_ | refine r_region (T := TT) rfl ?_ | refine r_block (T := TT) ?_ | refine r_then (T := TT) rfl ?_ | refine r_else (T := TT) rfl ?_)
  refine r_call (same23 hs1 (by decide)) rfl rfl rfl rfl rfl rfl rfl ?_
  repeat (first | refine r_op rfl rfl rfl rfl ?_ | refine r_skip rfl rfl rfl ?_ | refine .done ?_ | refine r_seq (T := TT) ?_ | refine r_region (T := TT) rfl ?_ | refine r_block (T := TT) ?_ | refine r_then (T := TT) rfl ?_ | refine r_else (T := TT) rfl ?_)
  refine r_call (ok_r2_FromInt 15 (by decide) (by decide) (q := ((15 : Int) : Rat)) rfl) rfl rfl rfl rfl rfl rfl rfl ?_
  repeat (first | refine r_op rfl rfl rfl rfl ?_ | refine r_skip rfl rfl rfl ?_ | refine .done ?_ | refine r_seq (T := TT) ?_ | refine r_region (T := TT) rfl ?_ | refine r_block (T := TT) ?_ | refine r_then (T := TT) rfl ?_ | refine r_else (T := TT) rfl ?_)
  refine r_call (same23 (int_sz8 (n := 15) (by decide)) (by decide)) rfl rfl rfl rfl rfl rfl rfl ?_
  repeat (first | refine r_op rfl rfl rfl rfl ?_ | refine r_skip rfl rfl rfl ?_ | refine .done ?_ | refine r_seq (T := TT) ?_ | refine r_region (T := TT) rfl ?_ | refine r_block (T := TT) ?_ | refine r_then (T := TT) rfl ?_ | refine r_else (T := TT) rfl ?_)
  refine r_call (ok_r2_Frac 1 2 (by decide) (by decide) (by decide) (by decide) (q := ⟨1, 2, by decide, by decide⟩) (divInt_is (by decide) (by decide) (by decide) (by decide))) rfl rfl rfl rfl rfl rfl rfl ?_
  repeat (first | refine r_op rfl rfl rfl rfl ?_ | refine r_skip rfl rfl rfl ?_ | refine .done ?_ | refine r_seq (T := TT) ?_ | refine r_region (T := TT) rfl ?_ | refine r_block (T := TT) ?_ | refine r_then (T := TT) rfl ?_ | refine r_else (T := TT) rfl ?_)
  refine r_call (ok_u_Format (a := ⟨1, 2, by decide, by decide⟩) (p := -1) (szQ1 (by decide) (by decide)) (by decide) (by decide) t1) rfl rfl rfl rfl rfl rfl rfl ?_
  refine r_bin rfl rfl rfl rfl rfl rfl rfl (binV_eqT (a := [49, 47, 50, 32, 109, 109, 94, 45, 49]) (b := [49, 47, 50, 32, 109, 109, 94, 45, 49]) rfl) ?_
  repeat (first | refine r_op rfl rfl rfl rfl ?_ | refine r_skip rfl rfl rfl ?_ | refine .done ?_ | refine r_seq (T := TT) ?_ | refine r_region (T := TT) rfl ?_ | refine r_block (T := TT) ?_ | refine r_then (T := TT) rfl ?_ | refine r_else (T := TT) rfl ?_)
  exact r_fin (T := TT) rfl rfl
end Go.Proofs.YtmpadildchphgaaGreatDoor
namespace Go.Proofs.YtmpadildchphgaaGreatDoor
open Go.ChangeShapes Go.WideShapes Go.ChangeAt Go.RowKit Go.Joins
theorem open_struct {H : Type} {enc : TypeId × Value → H} {W : World} {P : Program} {L : List TypeId} (hL : plainB P L = true) {t : TypeId} (ht : t ∈ L) {fs : Array Field} (hu : P.underlying t = some (.struct fs)) {r : Reach} {b0 : Nat} {v : Value} {d : DataW H} {p : List MemPlace} (hv : Value.okWide P W r b0 t v) (h : DataW.Trod enc P W 0 (fun _ => true) true t v d p) :
    ∃ n cs, DV.M (fun _ => False) W (.agg cs) v ∧ Sh P n t cs := by
  obtain ⟨cs, rfl, _⟩ := okWide_struct hu hv
  obtain ⟨n, xs, h1, h2⟩ := open_sh hL ht h
  exact ⟨n, xs, dv_agg h1, h2⟩
set_option maxRecDepth 100000 in
theorem sh_qty {n : Nat} {cs : List AV} (h : Sh Tryz.prog n 28 cs) : ∃ na xs nb ys p, cs = aI2 na xs nb ys ++ [.val (.int .i64 p)] ∧ Wd xs ∧ Wd ys ∧ -9223372036854775808 ≤ p ∧ p ≤ 9223372036854775807 := by
  cases n with
  | zero => exact h.elim
  | succ n =>
    simp only [Sh, Tryz.underlying28, List.forall_mem_cons, List.not_mem_nil, false_imp_iff, implies_true, and_true] at h
    obtain ⟨hl, h0, h1⟩ := h
    rw [show Tryz.prog.cellsOf 28 = 5 by kernel_rfl] at hl
    rw [show Tryz.prog.cellsOf 26 = 4 by kernel_rfl] at h0
    rw [show Tryz.prog.cellsOf 3 = 1 by kernel_rfl] at h1
    match cs, hl with
    | [c0, c1, c2, c3, c4], _ =>
      obtain ⟨na, xs, nb, ys, e0, w0, w1⟩ := sh_rat h0
      obtain ⟨p, e1, b0, b1⟩ := sh_i64 h1
      refine ⟨na, xs, nb, ys, p, ?_, w0, w1, b0, b1⟩
      have e0 : [c0, c1, c2, c3] = aI2 na xs nb ys := e0
      have e1 : [c4] = [.val (.int .i64 p)] := e1
      show [c0, c1, c2, c3] ++ [c4] = _
      rw [e0, e1]
def rN1 : QR → Bool
  | .ok x => decide (x.1.num < 0)
  | .error _ => false
def rD1 : QR → List Nat
  | .ok x => digs x.1.num.natAbs
  | .error _ => []
def rN2 : QR → Bool
  | .ok x => decide ((x.1.den : Int) < 0)
  | .error _ => false
def rD2 : QR → List Nat
  | .ok x => digs (x.1.den : Int).natAbs
  | .error _ => []
def rPw : QR → Int
  | .ok x => x.2
  | .error _ => 0
def rEr : QR → Int
  | .ok _ => 0
  | .error e => e
def dR3 (r : QR) : DV := dI3 (rN1 r) (rD1 r) (rN2 r) (rD2 r) (rPw r)
theorem toRV_eq (r : QR) : toRV r = .tup [dR3 r, dN .i64 (rEr r)] := by cases r <;> rfl
theorem ok_l23_sameR {k : Nat} {r : QR} (h : ∀ x, r = .ok x → SzQ k x.1) (hk : k ≤ 2147483648) (he : ∀ e, r = .error e → e ≠ 0) : CallOK Tryz.prog 18 [dR3 r, dN .i64 (rEr r), dR3 r, dN .i64 (rEr r)] (.one (dB true)) := by
  cases r with
  | ok x => exact ok_l23_same_t (a := x.1) (p := x.2) (h x rfl) hk
  | error e => exact ok_l23_same_e (he e rfl)
end Go.Proofs.YtmpadildchphgaaGreatDoor
namespace Go.Proofs.YtmpadildchphgaaGreatDoor
open Go.RowKit
section
variable {P : Program} {T : TypeId → Option Ty} {n : Nat} {ops : Array Oper} {id : Nat} {draw : Bool} {K : AS → Prop} {s : AS} {k : Nat} {o : Oper} {os : List Oper} {fps : List FP}
theorem r_max {x y : Operand} {ts : Array TypeId} {a b m : Int} (hm : max a b = m) (h1 : gd ops s o = some true) (h2 : o.op = .call ⟨.builtin .max, #[x, y], ts⟩) (h7 : s.ev x = .d (dN .i64 a)) (h8 : s.ev y = .d (dN .i64 b))
    (h3 : dstOK n o.dst = true) (h4 : chk draw ops (fpOf ops o ⟨.d (dN .i64 m), none⟩ []) k fps = true) (h : AOps P T n ops id draw K (k + 1) os (s.eff o.dst ⟨.d (dN .i64 m), none⟩) (fpOf ops o ⟨.d (dN .i64 m), none⟩ [] :: fps)) : AOps P T n ops id draw K k (o :: os) s fps := by
  subst hm
  refine .run h1 (.gen fun s2 ht _ => ?_) h3 h4 h
  have hx := (rt_op ht (x := x) (by simp [h2, Op.operands, Call.operands])).trans h7
  have hy := (rt_op ht (x := y) (by simp [h2, Op.operands, Call.operands])).trans h8
  refine sound_val fun n S0 w0 g a' w hM => ⟨.int .i64 (max a b), w, ?_, Below.refl _ _, AV.M.val rfl⟩
  have hm : (Builtin.max2 (.int .i64 a) (.int .i64 b)).run P w = .ok (.int .i64 (max a b)) w := by
    have e : max a b = if b > a then b else a := by split <;> omega
    rw [e]
    rfl
  simp [execOp, h2, resolve, invoke, builtin, Builtin.max_, ev_val hM hx, ev_val hM hy, Sem.run_bind, hm]
end
theorem ok_letter (c : UInt8) : ∃ b, CallOK Tryz.prog 159 [dN .u8 c.toNat] (.one (dB b)) := by
  by_cases h1 : 97 ≤ c.toNat
  · by_cases h2 : c.toNat ≤ 122
    · refine ⟨true, ?_⟩
      refine callOK_of TT_ok mixT Tryz.func159 rfl rfl (Nat.le_of_ble_eq_true rfl) ?_
      repeat refine r_seq (T := TT) ?_
      refine r_region (T := TT) rfl ?_
      repeat (first | refine r_op rfl rfl rfl rfl ?_ | refine r_skip rfl rfl rfl ?_)
      try refine .done ?_
      repeat refine r_seq (T := TT) ?_
      refine r_region (T := TT) rfl ?_
      iterate 1 (first | refine r_op rfl rfl rfl rfl ?_ | refine r_skip rfl rfl rfl ?_)
      refine r_eq (v' := .bool true) rfl rfl rfl rfl ?_ ?_
      · exact congrArg Value.bool (decide_eq_true (by omega))
      iterate 2 (first | refine r_op rfl rfl rfl rfl ?_ | refine r_skip rfl rfl rfl ?_)
      refine r_eq (v' := .bool true) rfl rfl rfl rfl ?_ ?_
      · exact congrArg Value.bool (decide_eq_true (by omega))
      repeat (first | refine r_op rfl rfl rfl rfl ?_ | refine r_skip rfl rfl rfl ?_ | refine .done ?_ | refine r_seq (T := TT) ?_ | refine r_region (T := TT) rfl ?_ | refine r_block (T := TT) ?_ | refine r_then (T := TT) rfl ?_ | refine r_else (T := TT) rfl ?_)
      exact r_fin (T := TT) rfl rfl
    · refine ⟨false, ?_⟩
      refine callOK_of TT_ok mixT Tryz.func159 rfl rfl (Nat.le_of_ble_eq_true rfl) ?_
      repeat refine r_seq (T := TT) ?_
      refine r_region (T := TT) rfl ?_
      repeat (first | refine r_op rfl rfl rfl rfl ?_ | refine r_skip rfl rfl rfl ?_)
      try refine .done ?_
      repeat refine r_seq (T := TT) ?_
      refine r_region (T := TT) rfl ?_
      iterate 1 (first | refine r_op rfl rfl rfl rfl ?_ | refine r_skip rfl rfl rfl ?_)
      refine r_eq (v' := .bool true) rfl rfl rfl rfl ?_ ?_
      · exact congrArg Value.bool (decide_eq_true (by omega))
      iterate 2 (first | refine r_op rfl rfl rfl rfl ?_ | refine r_skip rfl rfl rfl ?_)
      refine r_eq (v' := .bool false) rfl rfl rfl rfl ?_ ?_
      · exact congrArg Value.bool (decide_eq_false (by omega))
      iterate 3 (first | refine r_op rfl rfl rfl rfl ?_ | refine r_skip rfl rfl rfl ?_)
      refine r_eq (v' := .bool true) rfl rfl rfl rfl ?_ ?_
      · exact congrArg Value.bool (decide_eq_true (by omega))
      iterate 2 (first | refine r_op rfl rfl rfl rfl ?_ | refine r_skip rfl rfl rfl ?_)
      refine r_eq (v' := .bool false) rfl rfl rfl rfl ?_ ?_
      · exact congrArg Value.bool (decide_eq_false (by omega))
      repeat (first | refine r_op rfl rfl rfl rfl ?_ | refine r_skip rfl rfl rfl ?_ | refine .done ?_ | refine r_seq (T := TT) ?_ | refine r_region (T := TT) rfl ?_ | refine r_block (T := TT) ?_ | refine r_then (T := TT) rfl ?_ | refine r_else (T := TT) rfl ?_)
      exact r_fin (T := TT) rfl rfl
  · by_cases h2 : 65 ≤ c.toNat
    · by_cases h3 : c.toNat ≤ 90
      · refine ⟨true, ?_⟩
        refine callOK_of TT_ok mixT Tryz.func159 rfl rfl (Nat.le_of_ble_eq_true rfl) ?_
        repeat refine r_seq (T := TT) ?_
        refine r_region (T := TT) rfl ?_
        repeat (first | refine r_op rfl rfl rfl rfl ?_ | refine r_skip rfl rfl rfl ?_)
        try refine .done ?_
        repeat refine r_seq (T := TT) ?_
        refine r_region (T := TT) rfl ?_
        iterate 1 (first | refine r_op rfl rfl rfl rfl ?_ | refine r_skip rfl rfl rfl ?_)
        refine r_eq (v' := .bool false) rfl rfl rfl rfl ?_ ?_
        · exact congrArg Value.bool (decide_eq_false (by omega))
        iterate 6 (first | refine r_op rfl rfl rfl rfl ?_ | refine r_skip rfl rfl rfl ?_)
        refine r_eq (v' := .bool true) rfl rfl rfl rfl ?_ ?_
        · exact congrArg Value.bool (decide_eq_true (by omega))
        iterate 2 (first | refine r_op rfl rfl rfl rfl ?_ | refine r_skip rfl rfl rfl ?_)
        refine r_eq (v' := .bool true) rfl rfl rfl rfl ?_ ?_
        · exact congrArg Value.bool (decide_eq_true (by omega))
        repeat (first | refine r_op rfl rfl rfl rfl ?_ | refine r_skip rfl rfl rfl ?_ | refine .done ?_ | refine r_seq (T := TT) ?_ | refine r_region (T := TT) rfl ?_ | refine r_block (T := TT) ?_ | refine r_then (T := TT) rfl ?_ | refine r_else (T := TT) rfl ?_)
        exact r_fin (T := TT) rfl rfl
      · refine ⟨false, ?_⟩
        refine callOK_of TT_ok mixT Tryz.func159 rfl rfl (Nat.le_of_ble_eq_true rfl) ?_
        repeat refine r_seq (T := TT) ?_
        refine r_region (T := TT) rfl ?_
        repeat (first | refine r_op rfl rfl rfl rfl ?_ | refine r_skip rfl rfl rfl ?_)
        try refine .done ?_
        repeat refine r_seq (T := TT) ?_
        refine r_region (T := TT) rfl ?_
        iterate 1 (first | refine r_op rfl rfl rfl rfl ?_ | refine r_skip rfl rfl rfl ?_)
        refine r_eq (v' := .bool false) rfl rfl rfl rfl ?_ ?_
        · exact congrArg Value.bool (decide_eq_false (by omega))
        iterate 6 (first | refine r_op rfl rfl rfl rfl ?_ | refine r_skip rfl rfl rfl ?_)
        refine r_eq (v' := .bool true) rfl rfl rfl rfl ?_ ?_
        · exact congrArg Value.bool (decide_eq_true (by omega))
        iterate 2 (first | refine r_op rfl rfl rfl rfl ?_ | refine r_skip rfl rfl rfl ?_)
        refine r_eq (v' := .bool false) rfl rfl rfl rfl ?_ ?_
        · exact congrArg Value.bool (decide_eq_false (by omega))
        repeat (first | refine r_op rfl rfl rfl rfl ?_ | refine r_skip rfl rfl rfl ?_ | refine .done ?_ | refine r_seq (T := TT) ?_ | refine r_region (T := TT) rfl ?_ | refine r_block (T := TT) ?_ | refine r_then (T := TT) rfl ?_ | refine r_else (T := TT) rfl ?_)
        exact r_fin (T := TT) rfl rfl
    · refine ⟨false, ?_⟩
      refine callOK_of TT_ok mixT Tryz.func159 rfl rfl (Nat.le_of_ble_eq_true rfl) ?_
      repeat refine r_seq (T := TT) ?_
      refine r_region (T := TT) rfl ?_
      repeat (first | refine r_op rfl rfl rfl rfl ?_ | refine r_skip rfl rfl rfl ?_)
      try refine .done ?_
      repeat refine r_seq (T := TT) ?_
      refine r_region (T := TT) rfl ?_
      iterate 1 (first | refine r_op rfl rfl rfl rfl ?_ | refine r_skip rfl rfl rfl ?_)
      refine r_eq (v' := .bool false) rfl rfl rfl rfl ?_ ?_
      · exact congrArg Value.bool (decide_eq_false (by omega))
      iterate 6 (first | refine r_op rfl rfl rfl rfl ?_ | refine r_skip rfl rfl rfl ?_)
      refine r_eq (v' := .bool false) rfl rfl rfl rfl ?_ ?_
      · exact congrArg Value.bool (decide_eq_false (by omega))
      repeat (first | refine r_op rfl rfl rfl rfl ?_ | refine r_skip rfl rfl rfl ?_ | refine .done ?_ | refine r_seq (T := TT) ?_ | refine r_region (T := TT) rfl ?_ | refine r_block (T := TT) ?_ | refine r_then (T := TT) rfl ?_ | refine r_else (T := TT) rfl ?_)
      exact r_fin (T := TT) rfl rfl
theorem ok_digit21 (c : UInt8) : ∃ b, CallOK Tryz.prog 160 [dN .u8 c.toNat] (.one (dB b)) := by
  by_cases h1 : 48 ≤ c.toNat
  · by_cases h2 : c.toNat ≤ 57
    · refine ⟨true, ?_⟩
      refine callOK_of TT_ok mixT Tryz.func160 rfl rfl (Nat.le_of_ble_eq_true rfl) ?_
      repeat refine r_seq (T := TT) ?_
      refine r_region (T := TT) rfl ?_
      repeat (first | refine r_op rfl rfl rfl rfl ?_ | refine r_skip rfl rfl rfl ?_)
      try refine .done ?_
      repeat refine r_seq (T := TT) ?_
      refine r_region (T := TT) rfl ?_
      iterate 1 (first | refine r_op rfl rfl rfl rfl ?_ | refine r_skip rfl rfl rfl ?_)
      refine r_eq (v' := .bool true) rfl rfl rfl rfl ?_ ?_
      · exact congrArg Value.bool (decide_eq_true (by omega))
      iterate 2 (first | refine r_op rfl rfl rfl rfl ?_ | refine r_skip rfl rfl rfl ?_)
      refine r_eq (v' := .bool true) rfl rfl rfl rfl ?_ ?_
      · exact congrArg Value.bool (decide_eq_true (by omega))
      repeat (first | refine r_op rfl rfl rfl rfl ?_ | refine r_skip rfl rfl rfl ?_ | refine .done ?_ | refine r_seq (T := TT) ?_ | refine r_region (T := TT) rfl ?_ | refine r_block (T := TT) ?_ | refine r_then (T := TT) rfl ?_ | refine r_else (T := TT) rfl ?_)
      exact r_fin (T := TT) rfl rfl
    · refine ⟨false, ?_⟩
      refine callOK_of TT_ok mixT Tryz.func160 rfl rfl (Nat.le_of_ble_eq_true rfl) ?_
      repeat refine r_seq (T := TT) ?_
      refine r_region (T := TT) rfl ?_
      repeat (first | refine r_op rfl rfl rfl rfl ?_ | refine r_skip rfl rfl rfl ?_)
      try refine .done ?_
      repeat refine r_seq (T := TT) ?_
      refine r_region (T := TT) rfl ?_
      iterate 1 (first | refine r_op rfl rfl rfl rfl ?_ | refine r_skip rfl rfl rfl ?_)
      refine r_eq (v' := .bool true) rfl rfl rfl rfl ?_ ?_
      · exact congrArg Value.bool (decide_eq_true (by omega))
      iterate 2 (first | refine r_op rfl rfl rfl rfl ?_ | refine r_skip rfl rfl rfl ?_)
      refine r_eq (v' := .bool false) rfl rfl rfl rfl ?_ ?_
      · exact congrArg Value.bool (decide_eq_false (by omega))
      repeat (first | refine r_op rfl rfl rfl rfl ?_ | refine r_skip rfl rfl rfl ?_ | refine .done ?_ | refine r_seq (T := TT) ?_ | refine r_region (T := TT) rfl ?_ | refine r_block (T := TT) ?_ | refine r_then (T := TT) rfl ?_ | refine r_else (T := TT) rfl ?_)
      exact r_fin (T := TT) rfl rfl
  · refine ⟨false, ?_⟩
    refine callOK_of TT_ok mixT Tryz.func160 rfl rfl (Nat.le_of_ble_eq_true rfl) ?_
    repeat refine r_seq (T := TT) ?_
    refine r_region (T := TT) rfl ?_
    repeat (first | refine r_op rfl rfl rfl rfl ?_ | refine r_skip rfl rfl rfl ?_)
    try refine .done ?_
    repeat refine r_seq (T := TT) ?_
    refine r_region (T := TT) rfl ?_
    iterate 1 (first | refine r_op rfl rfl rfl rfl ?_ | refine r_skip rfl rfl rfl ?_)
    refine r_eq (v' := .bool false) rfl rfl rfl rfl ?_ ?_
    · exact congrArg Value.bool (decide_eq_false (by omega))
    repeat (first | refine r_op rfl rfl rfl rfl ?_ | refine r_skip rfl rfl rfl ?_ | refine .done ?_ | refine r_seq (T := TT) ?_ | refine r_region (T := TT) rfl ?_ | refine r_block (T := TT) ?_ | refine r_then (T := TT) rfl ?_ | refine r_else (T := TT) rfl ?_)
    exact r_fin (T := TT) rfl rfl
theorem tw_len {p : UInt8 → Bool} : ∀ {s : List UInt8} {i : Nat}, (∀ (q : Nat) c, q < i → s[q]? = some c → p c = true) → (s[i]? = none ∧ i ≤ s.length ∨ ∃ c, s[i]? = some c ∧ p c = false) → (s.takeWhile p).length = i
  | [], i, _, h => by
    rcases h with ⟨_, h⟩ | ⟨c, h, _⟩
    · simp at h; simp [h]
    · simp at h
  | a :: s, 0, _, h => by
    rcases h with ⟨h, _⟩ | ⟨c, h, k⟩
    · simp at h
    · simp at h; subst h; simp [List.takeWhile, k]
  | a :: s, i + 1, hq, h => by
    have h0 := hq 0 a (by omega) rfl
    simp only [List.takeWhile, h0, List.length_cons]
    rw [tw_len (s := s) (i := i) (fun q c h1 h2 => hq (q + 1) c (by omega) (by simpa using h2)) (by simpa using h)]
set_option maxHeartbeats 2000000 in
theorem ok_word (s : List UInt8) (hl : s.length ≤ 1000000) : ∃ k : Nat, CallOK Tryz.prog 139 [dL s, dN .i64 0] (.one (dN .i64 k)) := by
  have hB := Bs_size s
  obtain ⟨f, hf⟩ := Classical.axiomOfChoice ok_letter
  obtain ⟨g, hg⟩ := Classical.axiomOfChoice ok_digit21
  cases hs : s with
  | nil =>
    refine ⟨0, ?_⟩
    refine callOK_of TT_ok mixT Tryz.func139 rfl rfl (Nat.le_of_ble_eq_true rfl) ?_
    repeat (first | refine r_op rfl rfl rfl rfl ?_ | refine r_skip rfl rfl rfl ?_ | refine .done ?_ | refine r_seq (T := TT) ?_ | refine r_region (T := TT) rfl ?_ | refine r_block (T := TT) ?_ | refine r_then (T := TT) rfl ?_ | refine r_else (T := TT) rfl ?_)
    exact r_fin (T := TT) rfl rfl
  | cons c r =>
    rw [← hs]
    have hp : 0 < s.length := by rw [hs]; simp
    have h0 : s[0]? = some c := by rw [hs]; rfl
    have hc := hf c
    cases hb : f c
    · rw [hb] at hc
      refine ⟨0, ?_⟩
      refine callOK_of TT_ok mixT Tryz.func139 rfl rfl (Nat.le_of_ble_eq_true rfl) ?_
      repeat refine r_seq (T := TT) ?_
      refine r_region (T := TT) rfl ?_
      repeat (first | refine r_op rfl rfl rfl rfl ?_ | refine r_skip rfl rfl rfl ?_)
      try refine .done ?_
      repeat refine r_seq (T := TT) ?_
      refine r_region (T := TT) rfl ?_
      iterate 3 (first | refine r_op rfl rfl rfl rfl ?_ | refine r_skip rfl rfl rfl ?_)
      refine r_eq (v' := .bool false) rfl rfl rfl rfl ?_ ?_
      · exact congrArg Value.bool (decide_eq_false (by omega))
      iterate 3 (first | refine r_op rfl rfl rfl rfl ?_ | refine r_skip rfl rfl rfl ?_)
      refine r_sidx TT_ok (i := 0) (c := c) h0 rfl rfl rfl rfl rfl rfl rfl rfl ?_
      refine r_call (hc) rfl rfl rfl rfl rfl rfl rfl ?_
      repeat (first | refine r_op rfl rfl rfl rfl ?_ | refine r_skip rfl rfl rfl ?_ | refine .done ?_ | refine r_seq (T := TT) ?_ | refine r_region (T := TT) rfl ?_ | refine r_block (T := TT) ?_ | refine r_then (T := TT) rfl ?_ | refine r_else (T := TT) rfl ?_)
      exact r_fin (T := TT) rfl rfl
    · rw [hb] at hc
      refine ⟨(s.takeWhile fun c => f c || g c || decide (c.toNat = 95)).length, ?_⟩
      refine callOK_of TT_ok mixT Tryz.func139 rfl rfl (Nat.le_of_ble_eq_true rfl) ?_
      repeat refine r_seq (T := TT) ?_
      refine r_region (T := TT) rfl ?_
      repeat (first | refine r_op rfl rfl rfl rfl ?_ | refine r_skip rfl rfl rfl ?_)
      try refine .done ?_
      repeat refine r_seq (T := TT) ?_
      refine r_region (T := TT) rfl ?_
      iterate 3 (first | refine r_op rfl rfl rfl rfl ?_ | refine r_skip rfl rfl rfl ?_)
      refine r_eq (v' := .bool false) rfl rfl rfl rfl ?_ ?_
      · exact congrArg Value.bool (decide_eq_false (by omega))
      iterate 3 (first | refine r_op rfl rfl rfl rfl ?_ | refine r_skip rfl rfl rfl ?_)
      refine r_sidx TT_ok (i := 0) (c := c) h0 rfl rfl rfl rfl rfl rfl rfl rfl ?_
      refine r_call (hc) rfl rfl rfl rfl rfl rfl rfl ?_
      repeat (first | refine r_op rfl rfl rfl rfl ?_ | refine r_skip rfl rfl rfl ?_ | refine .done ?_ | refine r_seq (T := TT) ?_ | refine r_region (T := TT) rfl ?_ | refine r_block (T := TT) ?_ | refine r_then (T := TT) rfl ?_ | refine r_else (T := TT) rfl ?_)
      refine r_loop Nat (fun i => i ≤ s.length ∧ ∀ (q : Nat) c, q < i → s[q]? = some c → (f c || g c || decide (c.toNat = 95)) = true) (fun i => ⟨[(0, .d (dL s)), (1, .d (dN .i64 i)), (4, .d (dN .i64 0))], []⟩) (fun i => s.length - i) 0 ⟨Nat.zero_le _, fun q c h => absurd h (Nat.not_lt_zero _)⟩ (weak ⟨rfl, rfl, rfl, trivial⟩ trivial rfl) ?_
      rintro i ⟨hi, hq⟩
      repeat refine r_seq (T := TT) ?_
      refine r_region (T := TT) rfl ?_
      iterate 3 (first | refine r_op rfl rfl rfl rfl ?_ | refine r_skip rfl rfl rfl ?_)
      by_cases hlt : i < s.length
      · have hx : s[i]? = some s[i] := by simp [hlt]
        refine r_eq (v' := .bool true) rfl rfl rfl rfl ?_ ?_
        · exact congrArg Value.bool (decide_eq_true (by omega))
        iterate 3 (first | refine r_op rfl rfl rfl rfl ?_ | refine r_skip rfl rfl rfl ?_)
        refine r_sidx TT_ok (i := i) (c := s[i]) hx rfl rfl rfl rfl rfl rfl rfl rfl ?_
        have hcf := hf s[i]
        have hcg := hg s[i]
        have hnext : (f s[i] || g s[i] || decide (s[i].toNat = 95)) = true → ∀ (q : Nat) c, q < i + 1 → s[q]? = some c → (f c || g c || decide (c.toNat = 95)) = true := fun hv q c h1 h2 => by
          by_cases e : q = i
          · subst e; rw [hx] at h2; cases h2; exact hv
          · exact hq q c (by omega) h2
        cases hbf : f s[i]
        · rw [hbf] at hcf
          refine r_call (hcf) rfl rfl rfl rfl rfl rfl rfl ?_
          iterate 3 (first | refine r_op rfl rfl rfl rfl ?_ | refine r_skip rfl rfl rfl ?_)
          refine r_sidx TT_ok (i := i) (c := s[i]) hx rfl rfl rfl rfl rfl rfl rfl rfl ?_
          cases hbg : g s[i]
          · rw [hbg] at hcg
            refine r_call (hcg) rfl rfl rfl rfl rfl rfl rfl ?_
            iterate 4 (first | refine r_op rfl rfl rfl rfl ?_ | refine r_skip rfl rfl rfl ?_)
            refine r_sidx TT_ok (i := i) (c := s[i]) hx rfl rfl rfl rfl rfl rfl rfl rfl ?_
            by_cases h95 : s[i].toNat = 95
            · refine r_eq (v' := .bool true) rfl rfl rfl rfl ?_ ?_
              · exact congrArg Value.bool (decide_eq_true (by omega))
              repeat (first | refine r_op rfl rfl rfl rfl ?_ | refine r_skip rfl rfl rfl ?_ | refine .done ?_ | refine r_seq (T := TT) ?_ | refine r_region (T := TT) rfl ?_ | refine r_block (T := TT) ?_ | refine r_then (T := TT) rfl ?_ | refine r_else (T := TT) rfl ?_)
              exact ⟨i + 1, ⟨hlt, hnext (by simp [h95])⟩, by omega, weak ⟨rfl, tv_i64 (by omega) (by omega), rfl, trivial⟩ trivial rfl⟩
            · refine r_eq (v' := .bool false) rfl rfl rfl rfl ?_ ?_
              · exact congrArg Value.bool (decide_eq_false (by omega))
              repeat (first | refine r_op rfl rfl rfl rfl ?_ | refine r_skip rfl rfl rfl ?_ | refine .done ?_ | refine r_seq (T := TT) ?_ | refine r_region (T := TT) rfl ?_ | refine r_block (T := TT) ?_ | refine r_then (T := TT) rfl ?_ | refine r_else (T := TT) rfl ?_)
              rw [tw_len hq (.inr ⟨_, hx, by simp [hbf, hbg, h95]⟩)]
              exact r_fin (T := TT) rfl rfl
          · rw [hbg] at hcg
            refine r_call (hcg) rfl rfl rfl rfl rfl rfl rfl ?_
            repeat (first | refine r_op rfl rfl rfl rfl ?_ | refine r_skip rfl rfl rfl ?_ | refine .done ?_ | refine r_seq (T := TT) ?_ | refine r_region (T := TT) rfl ?_ | refine r_block (T := TT) ?_ | refine r_then (T := TT) rfl ?_ | refine r_else (T := TT) rfl ?_)
            exact ⟨i + 1, ⟨hlt, hnext (by simp [hbg])⟩, by omega, weak ⟨rfl, tv_i64 (by omega) (by omega), rfl, trivial⟩ trivial rfl⟩
        · rw [hbf] at hcf
          refine r_call (hcf) rfl rfl rfl rfl rfl rfl rfl ?_
          repeat (first | refine r_op rfl rfl rfl rfl ?_ | refine r_skip rfl rfl rfl ?_ | refine .done ?_ | refine r_seq (T := TT) ?_ | refine r_region (T := TT) rfl ?_ | refine r_block (T := TT) ?_ | refine r_then (T := TT) rfl ?_ | refine r_else (T := TT) rfl ?_)
          exact ⟨i + 1, ⟨hlt, hnext (by simp [hbf])⟩, by omega, weak ⟨rfl, tv_i64 (by omega) (by omega), rfl, trivial⟩ trivial rfl⟩
      · refine r_eq (v' := .bool false) rfl rfl rfl rfl ?_ ?_
        · exact congrArg Value.bool (decide_eq_false (by omega))
        repeat (first | refine r_op rfl rfl rfl rfl ?_ | refine r_skip rfl rfl rfl ?_ | refine .done ?_ | refine r_seq (T := TT) ?_ | refine r_region (T := TT) rfl ?_ | refine r_block (T := TT) ?_ | refine r_then (T := TT) rfl ?_ | refine r_else (T := TT) rfl ?_)
        rw [tw_len hq (.inl ⟨List.getElem?_eq_none (by omega), hi⟩)]
        exact r_fin (T := TT) rfl rfl
set_option maxHeartbeats 2000000 in
theorem ok_IsName (s : List UInt8) : ∃ b, CallOK Tryz.prog 115 [dL s] (.one (dB b)) := by
  have hB := Bs_size s
  by_cases h0 : s = []
  · refine ⟨false, ?_⟩
    refine callOK_of TT_ok mixT Tryz.func115 rfl rfl (Nat.le_of_ble_eq_true rfl) ?_
    repeat refine r_seq (T := TT) ?_
    refine r_region (T := TT) rfl ?_
    repeat (first | refine r_op rfl rfl rfl rfl ?_ | refine r_skip rfl rfl rfl ?_)
    try refine .done ?_
    repeat refine r_seq (T := TT) ?_
    refine r_region (T := TT) rfl ?_
    iterate 1 (first | refine r_op rfl rfl rfl rfl ?_ | refine r_skip rfl rfl rfl ?_)
    refine r_bin rfl rfl rfl rfl rfl rfl rfl (binV_neF (a := s) (b := []) h0) ?_
    repeat (first | refine r_op rfl rfl rfl rfl ?_ | refine r_skip rfl rfl rfl ?_ | refine .done ?_ | refine r_seq (T := TT) ?_ | refine r_region (T := TT) rfl ?_ | refine r_block (T := TT) ?_ | refine r_then (T := TT) rfl ?_ | refine r_else (T := TT) rfl ?_)
    exact r_fin (T := TT) rfl rfl
  · by_cases hl : s.length ≤ 24
    · obtain ⟨k, hk⟩ := ok_word s (by omega)
      by_cases he : k = s.length
      · refine ⟨true, ?_⟩
        refine callOK_of TT_ok mixT Tryz.func115 rfl rfl (Nat.le_of_ble_eq_true rfl) ?_
        repeat refine r_seq (T := TT) ?_
        refine r_region (T := TT) rfl ?_
        repeat (first | refine r_op rfl rfl rfl rfl ?_ | refine r_skip rfl rfl rfl ?_)
        try refine .done ?_
        repeat refine r_seq (T := TT) ?_
        refine r_region (T := TT) rfl ?_
        iterate 1 (first | refine r_op rfl rfl rfl rfl ?_ | refine r_skip rfl rfl rfl ?_)
        refine r_bin rfl rfl rfl rfl rfl rfl rfl (binV_neT (a := s) (b := []) h0) ?_
        iterate 3 (first | refine r_op rfl rfl rfl rfl ?_ | refine r_skip rfl rfl rfl ?_)
        refine r_eq (v' := .bool true) rfl rfl rfl rfl ?_ ?_
        · exact congrArg Value.bool (decide_eq_true (by omega))
        iterate 3 (first | refine r_op rfl rfl rfl rfl ?_ | refine r_skip rfl rfl rfl ?_)
        refine r_call (hk) rfl rfl rfl rfl rfl rfl rfl ?_
        iterate 2 (first | refine r_op rfl rfl rfl rfl ?_ | refine r_skip rfl rfl rfl ?_)
        refine r_eq (v' := .bool true) rfl rfl rfl rfl ?_ ?_
        · exact congrArg Value.bool (decide_eq_true (by omega))
        repeat (first | refine r_op rfl rfl rfl rfl ?_ | refine r_skip rfl rfl rfl ?_ | refine .done ?_ | refine r_seq (T := TT) ?_ | refine r_region (T := TT) rfl ?_ | refine r_block (T := TT) ?_ | refine r_then (T := TT) rfl ?_ | refine r_else (T := TT) rfl ?_)
        exact r_fin (T := TT) rfl rfl
      · refine ⟨false, ?_⟩
        refine callOK_of TT_ok mixT Tryz.func115 rfl rfl (Nat.le_of_ble_eq_true rfl) ?_
        repeat refine r_seq (T := TT) ?_
        refine r_region (T := TT) rfl ?_
        repeat (first | refine r_op rfl rfl rfl rfl ?_ | refine r_skip rfl rfl rfl ?_)
        try refine .done ?_
        repeat refine r_seq (T := TT) ?_
        refine r_region (T := TT) rfl ?_
        iterate 1 (first | refine r_op rfl rfl rfl rfl ?_ | refine r_skip rfl rfl rfl ?_)
        refine r_bin rfl rfl rfl rfl rfl rfl rfl (binV_neT (a := s) (b := []) h0) ?_
        iterate 3 (first | refine r_op rfl rfl rfl rfl ?_ | refine r_skip rfl rfl rfl ?_)
        refine r_eq (v' := .bool true) rfl rfl rfl rfl ?_ ?_
        · exact congrArg Value.bool (decide_eq_true (by omega))
        iterate 3 (first | refine r_op rfl rfl rfl rfl ?_ | refine r_skip rfl rfl rfl ?_)
        refine r_call (hk) rfl rfl rfl rfl rfl rfl rfl ?_
        iterate 2 (first | refine r_op rfl rfl rfl rfl ?_ | refine r_skip rfl rfl rfl ?_)
        refine r_eq (v' := .bool false) rfl rfl rfl rfl ?_ ?_
        · exact congrArg Value.bool (decide_eq_false (by omega))
        repeat (first | refine r_op rfl rfl rfl rfl ?_ | refine r_skip rfl rfl rfl ?_ | refine .done ?_ | refine r_seq (T := TT) ?_ | refine r_region (T := TT) rfl ?_ | refine r_block (T := TT) ?_ | refine r_then (T := TT) rfl ?_ | refine r_else (T := TT) rfl ?_)
        exact r_fin (T := TT) rfl rfl
    · refine ⟨false, ?_⟩
      refine callOK_of TT_ok mixT Tryz.func115 rfl rfl (Nat.le_of_ble_eq_true rfl) ?_
      repeat refine r_seq (T := TT) ?_
      refine r_region (T := TT) rfl ?_
      repeat (first | refine r_op rfl rfl rfl rfl ?_ | refine r_skip rfl rfl rfl ?_)
      try refine .done ?_
      repeat refine r_seq (T := TT) ?_
      refine r_region (T := TT) rfl ?_
      iterate 1 (first | refine r_op rfl rfl rfl rfl ?_ | refine r_skip rfl rfl rfl ?_)
      refine r_bin rfl rfl rfl rfl rfl rfl rfl (binV_neT (a := s) (b := []) h0) ?_
      iterate 3 (first | refine r_op rfl rfl rfl rfl ?_ | refine r_skip rfl rfl rfl ?_)
      refine r_eq (v' := .bool false) rfl rfl rfl rfl ?_ ?_
      · exact congrArg Value.bool (decide_eq_false (by omega))
      repeat (first | refine r_op rfl rfl rfl rfl ?_ | refine r_skip rfl rfl rfl ?_ | refine .done ?_ | refine r_seq (T := TT) ?_ | refine r_region (T := TT) rfl ?_ | refine r_block (T := TT) ?_ | refine r_then (T := TT) rfl ?_ | refine r_else (T := TT) rfl ?_)
      exact r_fin (T := TT) rfl rfl
end Go.Proofs.YtmpadildchphgaaGreatDoor
namespace Go.Proofs.YtmpadildchphgaaGreatDoor
open Go.RowKit
theorem rx_ind {p : Rx → Prop} (h : ∀ op na xs nb ys nm args, (∀ y ∈ args, p y) → p (.mk op na xs nb ys nm args)) : ∀ x, p x
  | .mk op na xs nb ys nm args => h op na xs nb ys nm args (fun y hy => rx_ind h y)
decreasing_by
  have := List.sizeOf_lt_of_mem hy
  simp
  omega
theorem aR_form (x : Rx) : ∃ o na xs nb ys nm n cs, aR x = cell7 o na xs nb ys nm n cs := by
  obtain ⟨op, na, xs, nb, ys, nm, args⟩ := x
  exact ⟨op, na, xs, nb, ys, nm, args.length, aRs args, rfl⟩
mutual
def szX : Rx → Nat
  | .mk _ _ _ _ _ _ args => szXs args + 1
def szXs : List Rx → Nat
  | [] => 0
  | x :: r => szX x + szXs r
end
mutual
def ndX : Rx → Nat → Nat
  | .mk _ _ _ _ _ _ args, m => ndL args 1 m
def ndL : List Rx → Nat → Nat → Nat
  | [], n, _ => n
  | y :: r, n, m => if n ≤ m then ndL r (n + ndX y (m - n)) m else n
end
theorem ndL_over : ∀ {l : List Rx} {n m : Nat}, m < n → ndL l n m = n
  | [], n, m, _ => rfl
  | y :: r, n, m, h => by rw [ndL, if_neg (by omega)]
theorem ndL_drop {l : List Rx} {i : Nat} (h : i < l.length) {n m : Nat} (hn : n ≤ m) : ndL (l.drop i) n m = ndL (l.drop (i + 1)) (n + ndX l[i] (m - n)) m := by
  rw [List.drop_eq_getElem_cons h, ndL, if_pos hn]
theorem ndX_le : ∀ (x : Rx) (m : Nat), 1 ≤ ndX x m ∧ ndX x m ≤ m + 1 ∧ (ndX x m ≤ m → ndX x m = szX x) := by
  refine rx_ind fun op na xs nb ys nm args ih m => ?_
  have key : ∀ (l : List Rx), (∀ y ∈ l, ∀ m, 1 ≤ ndX y m ∧ ndX y m ≤ m + 1 ∧ (ndX y m ≤ m → ndX y m = szX y)) → ∀ n, 1 ≤ n → n ≤ m + 1 → 1 ≤ ndL l n m ∧ ndL l n m ≤ m + 1 ∧ (ndL l n m ≤ m → ndL l n m = n + szXs l) := by
    intro l
    induction l with
    | nil => intro _ n h1 h2; exact ⟨h1, h2, fun _ => rfl⟩
    | cons y r ihr =>
      intro h n h1 h2
      by_cases hn : n ≤ m
      · rw [ndL, if_pos hn]
        obtain ⟨a1, a2, a3⟩ := h y (by simp) (m - n)
        obtain ⟨b1, b2, b3⟩ := ihr (fun z hz => h z (by simp [hz])) (n + ndX y (m - n)) (by omega) (by omega)
        refine ⟨b1, b2, fun hle => ?_⟩
        rw [b3 hle, szXs]
        by_cases hm : n + ndX y (m - n) ≤ m
        · rw [a3 (by omega)]; omega
        · rw [ndL_over (by omega)] at hle; omega
      · rw [ndL, if_neg hn]
        exact ⟨h1, h2, fun h => absurd h hn⟩
  rw [ndX, szX]
  obtain ⟨c1, c2, c3⟩ := key args ih 1 (Nat.le_refl _) (by omega)
  exact ⟨c1, c2, fun h => by rw [c3 h]; omega⟩
set_option maxHeartbeats 1000000 in
theorem ok_Nodes : ∀ (x : Rx), WdX x → ∀ m : Nat, m ≤ 1000000 → CallOK Tryz.prog 52 [dR x, dN .i64 m] (.one (dN .i64 (ndX x m))) := by
  refine rx_ind fun op na xs nb ys nm args ih hx m hm => ?_
  obtain ⟨_, _, _, _, _, hlen, hargs⟩ := hx
  show CallOK Tryz.prog _ [.agg (cell7 op na xs nb ys nm args.length (aRs args)), _] _
  have ht0 := (ndX_le (.mk op na xs nb ys nm args) m).2.1
  rw [ndX] at ht0 ⊢
  generalize ht : ndL args 1 m = t at ht0
  refine callOK_of TT_ok mixT Tryz.func52 rfl rfl (Nat.le_of_ble_eq_true rfl) ?_
  repeat (first | refine r_op rfl rfl rfl rfl ?_ | refine r_skip rfl rfl rfl ?_ | refine .done ?_ | refine r_seq (T := TT) ?_ | refine r_region (T := TT) rfl ?_ | refine r_block (T := TT) ?_ | refine r_then (T := TT) rfl ?_ | refine r_else (T := TT) rfl ?_)
  refine r_loop (Nat × Nat) (fun s => s.1 ≤ args.length ∧ 1 ≤ s.2 ∧ s.2 ≤ m + 1 ∧ ndL (args.drop s.1) s.2 m = t) (fun s => ⟨[(1, .d (dN .i64 m)), (2, .box 0 0), (4, .d (dN .i64 0)), (5, .d (dN .i64 s.2)), (6, .d (dN .i64 s.1))], [(0, some (cell7 op na xs nb ys nm args.length (aRs args)))]⟩) (fun s => args.length - s.1) (0, 1) ⟨Nat.zero_le _, Nat.le_refl _, by dsimp only; omega, ht⟩
    (weak ⟨rfl, rfl, rfl, rfl, rfl, trivial⟩ ⟨rfl, trivial⟩ rfl) ?_
  rintro ⟨i, n⟩ ⟨hi, h1, h2, hd⟩
  dsimp only at hi h1 h2 hd ⊢
  repeat refine r_seq (T := TT) ?_
  refine r_region (T := TT) rfl ?_
  iterate 4 (first | refine r_op rfl rfl rfl rfl ?_ | refine r_skip rfl rfl rfl ?_)
  by_cases hlt : i < args.length
  · refine r_eq (v' := .bool true) rfl rfl rfl rfl ?_ ?_
    · exact congrArg Value.bool (decide_eq_true (by omega))
    iterate 3 (first | refine r_op rfl rfl rfl rfl ?_ | refine r_skip rfl rfl rfl ?_)
    by_cases hn : n ≤ m
    · refine r_eq (v' := .bool true) rfl rfl rfl rfl ?_ ?_
      · exact congrArg Value.bool (decide_eq_true (by omega))
      obtain ⟨o1, na1, xs1, nb1, ys1, nm1, n1, cs1, hA⟩ := aR_form args[i]
      have hat : ∀ (j : Nat) (a : AV), (cell7 o1 na1 xs1 nb1 ys1 nm1 n1 cs1)[j]? = some a → (aRs args)[i * 7 + j]? = some a := fun j a h => aRs_at args i args[i] (by simp [hlt]) j a (by rw [hA]; exact h)
      have c := ih args[i] (List.getElem_mem hlt) (hargs _ (List.getElem_mem hlt)) (m - n) (by omega)
      rw [show dR args[i] = .agg (cell7 o1 na1 xs1 nb1 ys1 nm1 n1 cs1) from congrArg DV.agg hA] at c
      obtain ⟨k1, k2, _⟩ := ndX_le args[i] (m - n)
      have hstep := ndL_drop hlt hn
      generalize ndX args[i] (m - n) = k at *
      repeat (first | refine r_op rfl rfl rfl rfl ?_ | refine r_skip rfl rfl rfl ?_ | refine .done ?_ | refine r_seq (T := TT) ?_ | refine r_region (T := TT) rfl ?_ | refine r_block (T := TT) ?_ | refine r_then (T := TT) rfl ?_ | refine r_else (T := TT) rfl ?_)
      refine r_idx (i := i) (cs' := cell7 o1 na1 xs1 nb1 ys1 nm1 n1 cs1) hlt hat (Nat.zero_lt_succ 6) rfl rfl rfl rfl rfl rfl rfl rfl ?_
      iterate 3 (first | refine r_op rfl rfl rfl rfl ?_ | refine r_skip rfl rfl rfl ?_)
      refine r_eq (v' := .int .i64 ((m - n : Nat))) rfl rfl rfl rfl ?_ ?_
      · exact congrArg (Value.int .i64) (by rw [IntWalk.i64_in _ (by omega)]; omega)
      refine r_call (c) rfl rfl rfl rfl rfl rfl rfl ?_
      repeat (first | refine r_op rfl rfl rfl rfl ?_ | refine r_skip rfl rfl rfl ?_ | refine .done ?_ | refine r_seq (T := TT) ?_ | refine r_region (T := TT) rfl ?_ | refine r_block (T := TT) ?_ | refine r_then (T := TT) rfl ?_ | refine r_else (T := TT) rfl ?_)
      exact ⟨(i + 1, n + k), ⟨hlt, by dsimp only; omega, by dsimp only; omega, by dsimp only; rw [← hstep]; exact hd⟩, by dsimp only; omega, weak ⟨rfl, rfl, rfl, tv_i64 (by omega) (by omega), tv_i64 (by omega) (by omega), trivial⟩ ⟨rfl, trivial⟩ rfl⟩
    · refine r_eq (v' := .bool false) rfl rfl rfl rfl ?_ ?_
      · exact congrArg Value.bool (decide_eq_false (by omega))
      repeat (first | refine r_op rfl rfl rfl rfl ?_ | refine r_skip rfl rfl rfl ?_ | refine .done ?_ | refine r_seq (T := TT) ?_ | refine r_region (T := TT) rfl ?_ | refine r_block (T := TT) ?_ | refine r_then (T := TT) rfl ?_ | refine r_else (T := TT) rfl ?_)
      rw [← hd, ndL_over (by omega)]
      exact r_fin (T := TT) rfl rfl
  · refine r_eq (v' := .bool false) rfl rfl rfl rfl ?_ ?_
    · exact congrArg Value.bool (decide_eq_false (by omega))
    repeat (first | refine r_op rfl rfl rfl rfl ?_ | refine r_skip rfl rfl rfl ?_ | refine .done ?_ | refine r_seq (T := TT) ?_ | refine r_region (T := TT) rfl ?_ | refine r_block (T := TT) ?_ | refine r_then (T := TT) rfl ?_ | refine r_else (T := TT) rfl ?_)
    rw [← hd, List.drop_eq_nil_of_le (by omega), ndL]
    exact r_fin (T := TT) rfl rfl
mutual
def ltX : Rx → Bool
  | .mk _ _ xs _ ys nm args => ltXs args && (decide (xs.length ≤ 8) && decide (ys.length ≤ 8) && decide (nm.length ≤ 60))
def ltXs : List Rx → Bool
  | [] => true
  | y :: r => ltX y && ltXs r
end
theorem ltXs_mem : ∀ {l : List Rx}, ltXs l = true → ∀ y ∈ l, ltX y = true
  | a :: l, h, y, hy => by
    simp only [ltXs, Bool.and_eq_true] at h
    rcases List.mem_cons.1 hy with rfl | hy
    · exact h.1
    · exact ltXs_mem h.2 y hy
theorem ltXs_all : ∀ {l : List Rx}, (∀ (q : Nat) (y : Rx), l[q]? = some y → ltX y = true) → ltXs l = true
  | [], _ => rfl
  | a :: l, h => by
    simp only [ltXs, Bool.and_eq_true]
    exact ⟨h 0 a rfl, ltXs_all fun q y hq => h (q + 1) y (by simpa using hq)⟩
set_option maxHeartbeats 1000000 in
theorem ok_light : ∀ (x : Rx), WdX x → CallOK Tryz.prog 82 [dR x] (.one (dB (ltX x))) := by
  refine rx_ind fun op na xs nb ys nm args ih hx => ?_
  obtain ⟨_, _, _, _, _, hlen, hargs⟩ := hx
  have hB := Bs_size nm
  show CallOK Tryz.prog _ [.agg (cell7 op na xs nb ys nm args.length (aRs args))] _
  refine callOK_of TT_ok mixT Tryz.func82 rfl rfl (Nat.le_of_ble_eq_true rfl) ?_
  repeat (first | refine r_op rfl rfl rfl rfl ?_ | refine r_skip rfl rfl rfl ?_ | refine .done ?_ | refine r_seq (T := TT) ?_ | refine r_region (T := TT) rfl ?_ | refine r_block (T := TT) ?_ | refine r_then (T := TT) rfl ?_ | refine r_else (T := TT) rfl ?_)
  refine r_loop Nat (fun i => i ≤ args.length ∧ ∀ (q : Nat) y, q < i → args[q]? = some y → ltX y = true) (fun i => ⟨[(1, .box 0 0), (2, .d (dB false)), (3, .d (dN .i64 i))], [(0, some (cell7 op na xs nb ys nm args.length (aRs args)))]⟩) (fun i => args.length - i) 0 ⟨Nat.zero_le _, fun q y h => absurd h (Nat.not_lt_zero _)⟩
    (weak ⟨rfl, rfl, rfl, trivial⟩ ⟨rfl, trivial⟩ rfl) ?_
  rintro i ⟨hi, hq⟩
  repeat refine r_seq (T := TT) ?_
  refine r_region (T := TT) rfl ?_
  iterate 4 (first | refine r_op rfl rfl rfl rfl ?_ | refine r_skip rfl rfl rfl ?_)
  by_cases hlt : i < args.length
  · refine r_eq (v' := .bool true) rfl rfl rfl rfl ?_ ?_
    · exact congrArg Value.bool (decide_eq_true (by omega))
    obtain ⟨o1, na1, xs1, nb1, ys1, nm1, n1, cs1, hA⟩ := aR_form args[i]
    have hx : args[i]? = some args[i] := by simp [hlt]
    have hat : ∀ (j : Nat) (a : AV), (cell7 o1 na1 xs1 nb1 ys1 nm1 n1 cs1)[j]? = some a → (aRs args)[i * 7 + j]? = some a := fun j a h => aRs_at args i args[i] hx j a (by rw [hA]; exact h)
    have c := ih args[i] (List.getElem_mem hlt) (hargs _ (List.getElem_mem hlt))
    rw [show dR args[i] = .agg (cell7 o1 na1 xs1 nb1 ys1 nm1 n1 cs1) from congrArg DV.agg hA] at c
    repeat (first | refine r_op rfl rfl rfl rfl ?_ | refine r_skip rfl rfl rfl ?_ | refine .done ?_ | refine r_seq (T := TT) ?_ | refine r_region (T := TT) rfl ?_ | refine r_block (T := TT) ?_ | refine r_then (T := TT) rfl ?_ | refine r_else (T := TT) rfl ?_)
    refine r_idx (i := i) (cs' := cell7 o1 na1 xs1 nb1 ys1 nm1 n1 cs1) hlt hat (Nat.zero_lt_succ 6) rfl rfl rfl rfl rfl rfl rfl rfl ?_
    iterate 1 (first | refine r_op rfl rfl rfl rfl ?_ | refine r_skip rfl rfl rfl ?_)
    cases hb : ltX args[i]
    · rw [hb] at c
      refine r_call (c) rfl rfl rfl rfl rfl rfl rfl ?_
      repeat (first | refine r_op rfl rfl rfl rfl ?_ | refine r_skip rfl rfl rfl ?_ | refine .done ?_ | refine r_seq (T := TT) ?_ | refine r_region (T := TT) rfl ?_ | refine r_block (T := TT) ?_ | refine r_then (T := TT) rfl ?_ | refine r_else (T := TT) rfl ?_)
      rw [show ltX (.mk op na xs nb ys nm args) = false by
        rw [ltX, Bool.and_eq_false_iff]
        refine .inl ?_
        cases h : ltXs args
        · rfl
        · rw [ltXs_mem h _ (List.getElem_mem hlt)] at hb; cases hb]
      exact r_fin (T := TT) rfl rfl
    · rw [hb] at c
      refine r_call (c) rfl rfl rfl rfl rfl rfl rfl ?_
      repeat (first | refine r_op rfl rfl rfl rfl ?_ | refine r_skip rfl rfl rfl ?_ | refine .done ?_ | refine r_seq (T := TT) ?_ | refine r_region (T := TT) rfl ?_ | refine r_block (T := TT) ?_ | refine r_then (T := TT) rfl ?_ | refine r_else (T := TT) rfl ?_)
      exact ⟨i + 1, ⟨hlt, fun q y h1 h2 => by
        by_cases e : q = i
        · subst e; rw [hx] at h2; cases h2; exact hb
        · exact hq q y (by omega) h2⟩, by omega, weak ⟨rfl, rfl, tv_i64 (by omega) (by omega), trivial⟩ ⟨rfl, trivial⟩ rfl⟩
  · refine r_eq (v' := .bool false) rfl rfl rfl rfl ?_ ?_
    · exact congrArg Value.bool (decide_eq_false (by omega))
    have hall : ltXs args = true := ltXs_all fun q y h => hq q y (by have := (List.getElem?_eq_some_iff.1 h).1; omega) h
    rw [ltX, hall, Bool.true_and]
    repeat (first | refine r_op rfl rfl rfl rfl ?_ | refine r_skip rfl rfl rfl ?_ | refine .done ?_)
    refine r_seq (T := TT) ?_
    refine r_else (T := TT) rfl ?_
    refine r_exit ?_
    repeat refine r_seq (T := TT) ?_
    refine r_region (T := TT) rfl ?_
    iterate 5 (first | refine r_op rfl rfl rfl rfl ?_ | refine r_skip rfl rfl rfl ?_)
    by_cases l1 : xs.length ≤ 8
    · refine r_eq (v' := .bool true) rfl rfl rfl rfl ?_ ?_
      · exact congrArg Value.bool (decide_eq_true (by omega))
      iterate 6 (first | refine r_op rfl rfl rfl rfl ?_ | refine r_skip rfl rfl rfl ?_)
      by_cases l2 : ys.length ≤ 8
      · refine r_eq (v' := .bool true) rfl rfl rfl rfl ?_ ?_
        · exact congrArg Value.bool (decide_eq_true (by omega))
        iterate 5 (first | refine r_op rfl rfl rfl rfl ?_ | refine r_skip rfl rfl rfl ?_)
        by_cases l3 : nm.length ≤ 60
        · refine r_eq (v' := .bool true) rfl rfl rfl rfl ?_ ?_
          · exact congrArg Value.bool (decide_eq_true (by omega))
          repeat (first | refine r_op rfl rfl rfl rfl ?_ | refine r_skip rfl rfl rfl ?_ | refine .done ?_ | refine r_seq (T := TT) ?_ | refine r_region (T := TT) rfl ?_ | refine r_block (T := TT) ?_ | refine r_then (T := TT) rfl ?_ | refine r_else (T := TT) rfl ?_)
          rw [decide_eq_true l1, decide_eq_true l2, decide_eq_true l3]
          exact r_fin (T := TT) rfl rfl
        · refine r_eq (v' := .bool false) rfl rfl rfl rfl ?_ ?_
          · exact congrArg Value.bool (decide_eq_false (by omega))
          repeat (first | refine r_op rfl rfl rfl rfl ?_ | refine r_skip rfl rfl rfl ?_ | refine .done ?_ | refine r_seq (T := TT) ?_ | refine r_region (T := TT) rfl ?_ | refine r_block (T := TT) ?_ | refine r_then (T := TT) rfl ?_ | refine r_else (T := TT) rfl ?_)
          rw [decide_eq_true l1, decide_eq_true l2, decide_eq_false l3]
          exact r_fin (T := TT) rfl rfl
      · refine r_eq (v' := .bool false) rfl rfl rfl rfl ?_ ?_
        · exact congrArg Value.bool (decide_eq_false (by omega))
        repeat (first | refine r_op rfl rfl rfl rfl ?_ | refine r_skip rfl rfl rfl ?_ | refine .done ?_ | refine r_seq (T := TT) ?_ | refine r_region (T := TT) rfl ?_ | refine r_block (T := TT) ?_ | refine r_then (T := TT) rfl ?_ | refine r_else (T := TT) rfl ?_)
        rw [decide_eq_true l1, decide_eq_false l2]
        exact r_fin (T := TT) rfl rfl
    · refine r_eq (v' := .bool false) rfl rfl rfl rfl ?_ ?_
      · exact congrArg Value.bool (decide_eq_false (by omega))
      repeat (first | refine r_op rfl rfl rfl rfl ?_ | refine r_skip rfl rfl rfl ?_ | refine .done ?_ | refine r_seq (T := TT) ?_ | refine r_region (T := TT) rfl ?_ | refine r_block (T := TT) ?_ | refine r_then (T := TT) rfl ?_ | refine r_else (T := TT) rfl ?_)
      rw [decide_eq_false l1]
      exact r_fin (T := TT) rfl rfl
mutual
def dpX : Rx → Nat
  | .mk _ _ _ _ _ _ args => dpXs args + 1
def dpXs : List Rx → Nat
  | [] => 0
  | y :: r => max (dpX y) (dpXs r)
end
theorem dpX_le : ∀ x, dpX x ≤ szX x := by
  refine rx_ind fun op na xs nb ys nm args ih => ?_
  have key : ∀ l : List Rx, (∀ y ∈ l, dpX y ≤ szX y) → dpXs l ≤ szXs l := by
    intro l
    induction l with
    | nil => intro _; exact Nat.le_refl _
    | cons y r ihr =>
      intro h
      have h1 := h y (by simp)
      have h2 := ihr fun z hz => h z (by simp [hz])
      rw [dpXs, szXs]
      omega
  rw [dpX, szX]
  have := key args ih
  omega
theorem szX_mem : ∀ {l : List Rx} {y : Rx}, y ∈ l → szX y ≤ szXs l
  | a :: l, y, h => by
    rw [szXs]
    rcases List.mem_cons.1 h with rfl | h
    · omega
    · have := szX_mem h; omega
theorem dpX_mem : ∀ {l : List Rx} {y : Rx}, y ∈ l → dpX y ≤ dpXs l
  | a :: l, y, h => by
    rw [dpXs]
    rcases List.mem_cons.1 h with rfl | h
    · omega
    · have := dpX_mem h; omega
set_option maxHeartbeats 1000000 in
theorem ok_Depth : ∀ (x : Rx), WdX x → szX x ≤ 1000000 → CallOK Tryz.prog 55 [dR x] (.one (dN .i64 (dpX x))) := by
  refine rx_ind fun op na xs nb ys nm args ih hx hs => ?_
  have hd0 := dpX_le (.mk op na xs nb ys nm args)
  obtain ⟨_, _, _, _, _, hlen, hargs⟩ := hx
  rw [szX] at hs
  rw [dpX, szX] at hd0
  show CallOK Tryz.prog _ [.agg (cell7 op na xs nb ys nm args.length (aRs args))] _
  refine callOK_of TT_ok mixT Tryz.func55 rfl rfl (Nat.le_of_ble_eq_true rfl) ?_
  repeat (first | refine r_op rfl rfl rfl rfl ?_ | refine r_skip rfl rfl rfl ?_ | refine .done ?_ | refine r_seq (T := TT) ?_ | refine r_region (T := TT) rfl ?_ | refine r_block (T := TT) ?_ | refine r_then (T := TT) rfl ?_ | refine r_else (T := TT) rfl ?_)
  refine r_loop (Nat × Nat) (fun s => s.1 ≤ args.length ∧ s.2 ≤ dpXs args ∧ max s.2 (dpXs (args.drop s.1)) = dpXs args) (fun s => ⟨[(1, .box 0 0), (2, .d (dN .i64 0)), (3, .d (dN .i64 s.2)), (4, .d (dN .i64 s.1))], [(0, some (cell7 op na xs nb ys nm args.length (aRs args)))]⟩) (fun s => args.length - s.1) (0, 0) ⟨Nat.zero_le _, Nat.zero_le _, Nat.zero_max _⟩
    (weak ⟨rfl, rfl, rfl, rfl, trivial⟩ ⟨rfl, trivial⟩ rfl) ?_
  rintro ⟨i, d⟩ ⟨hi, h1, h2⟩
  dsimp only at hi h1 h2 ⊢
  repeat refine r_seq (T := TT) ?_
  refine r_region (T := TT) rfl ?_
  iterate 4 (first | refine r_op rfl rfl rfl rfl ?_ | refine r_skip rfl rfl rfl ?_)
  by_cases hlt : i < args.length
  · refine r_eq (v' := .bool true) rfl rfl rfl rfl ?_ ?_
    · exact congrArg Value.bool (decide_eq_true (by omega))
    obtain ⟨o1, na1, xs1, nb1, ys1, nm1, n1, cs1, hA⟩ := aR_form args[i]
    have hx : args[i]? = some args[i] := by simp [hlt]
    have hat : ∀ (j : Nat) (a : AV), (cell7 o1 na1 xs1 nb1 ys1 nm1 n1 cs1)[j]? = some a → (aRs args)[i * 7 + j]? = some a := fun j a h => aRs_at args i args[i] hx j a (by rw [hA]; exact h)
    have hm := List.getElem_mem hlt
    have hsz := szX_mem hm
    have hdp := dpX_mem hm
    have c := ih args[i] hm (hargs _ hm) (by omega)
    rw [show dR args[i] = .agg (cell7 o1 na1 xs1 nb1 ys1 nm1 n1 cs1) from congrArg DV.agg hA] at c
    rw [List.drop_eq_getElem_cons hlt, dpXs] at h2
    generalize dpX args[i] = k at *
    repeat (first | refine r_op rfl rfl rfl rfl ?_ | refine r_skip rfl rfl rfl ?_ | refine .done ?_ | refine r_seq (T := TT) ?_ | refine r_region (T := TT) rfl ?_ | refine r_block (T := TT) ?_ | refine r_then (T := TT) rfl ?_ | refine r_else (T := TT) rfl ?_)
    refine r_idx (i := i) (cs' := cell7 o1 na1 xs1 nb1 ys1 nm1 n1 cs1) hlt hat (Nat.zero_lt_succ 6) rfl rfl rfl rfl rfl rfl rfl rfl ?_
    iterate 1 (first | refine r_op rfl rfl rfl rfl ?_ | refine r_skip rfl rfl rfl ?_)
    refine r_call (c) rfl rfl rfl rfl rfl rfl rfl ?_
    refine r_max (a := d) (b := k) (m := (max d k : Nat)) (by omega) rfl rfl rfl rfl rfl rfl ?_
    repeat (first | refine r_op rfl rfl rfl rfl ?_ | refine r_skip rfl rfl rfl ?_ | refine .done ?_ | refine r_seq (T := TT) ?_ | refine r_region (T := TT) rfl ?_ | refine r_block (T := TT) ?_ | refine r_then (T := TT) rfl ?_ | refine r_else (T := TT) rfl ?_)
    exact ⟨(i + 1, max d k), ⟨hlt, by dsimp only; omega, by dsimp only; omega⟩, by dsimp only; omega, weak ⟨rfl, rfl, rfl, tv_i64 (by omega) (by omega), trivial⟩ ⟨rfl, trivial⟩ rfl⟩
  · refine r_eq (v' := .bool false) rfl rfl rfl rfl ?_ ?_
    · exact congrArg Value.bool (decide_eq_false (by omega))
    rw [List.drop_eq_nil_of_le (by omega), dpXs] at h2
    have hdd : d = dpXs args := by omega
    rw [dpX, ← hdd]
    repeat (first | refine r_op rfl rfl rfl rfl ?_ | refine r_skip rfl rfl rfl ?_ | refine .done ?_)
    refine r_seq (T := TT) ?_
    refine r_else (T := TT) rfl ?_
    refine r_exit ?_
    repeat refine r_seq (T := TT) ?_
    refine r_region (T := TT) rfl ?_
    iterate 1 (first | refine r_op rfl rfl rfl rfl ?_ | refine r_skip rfl rfl rfl ?_)
    refine r_eq (v' := .int .i64 ((d + 1 : Nat))) rfl rfl rfl rfl ?_ ?_
    · exact congrArg (Value.int .i64) (by rw [IntWalk.i64_in _ (by omega)]; omega)
    repeat (first | refine r_op rfl rfl rfl rfl ?_ | refine r_skip rfl rfl rfl ?_ | refine .done ?_ | refine r_seq (T := TT) ?_ | refine r_region (T := TT) rfl ?_ | refine r_block (T := TT) ?_ | refine r_then (T := TT) rfl ?_ | refine r_else (T := TT) rfl ?_)
    exact r_fin (T := TT) rfl rfl
end Go.Proofs.YtmpadildchphgaaGreatDoor
