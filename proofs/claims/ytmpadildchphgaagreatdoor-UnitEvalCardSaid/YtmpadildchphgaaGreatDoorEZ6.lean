/- Parts of a proof: contracts of the functions that the laws reach. -/
import Derived.Test.YtmpadildchphgaaGreatDoorEZ5
namespace Go.Proofs.YtmpadildchphgaaGreatDoor
open Go.RowKit
theorem ok_r22_Small (x : Rx) (hx : WdX x) : CallOK Tryz.prog 53 [dR x] (.one (dB (decide (ndX x 120 ≤ 120) && ltX x))) := by
  have c1 := ok_Nodes x hx 120 (by decide)
  have c2 := ok_light x hx
  have hn := ndX_le x 120
  obtain ⟨o1, na1, xs1, nb1, ys1, nm1, n1, cs1, hA⟩ := aR_form x
  rw [show dR x = .agg (cell7 o1 na1 xs1 nb1 ys1 nm1 n1 cs1) from congrArg DV.agg hA] at c1 c2 ⊢
  generalize ndX x 120 = k at *
  by_cases hk : k ≤ 120
  · rw [decide_eq_true hk, Bool.true_and]
    refine callOK_of TT_ok mixT Tryz.func53 rfl rfl (Nat.le_of_ble_eq_true rfl) ?_
    repeat (first | refine r_op rfl rfl rfl rfl ?_ | refine r_skip rfl rfl rfl ?_ | refine .done ?_ | refine r_seq (T := TT) ?_ | refine r_region (T := TT) rfl ?_ | refine r_block (T := TT) ?_ | refine r_then (T := TT) rfl ?_ | refine r_else (T := TT) rfl ?_)
    refine r_call (c1) rfl rfl rfl rfl rfl rfl rfl ?_
    refine r_eq (v' := .bool true) rfl rfl rfl rfl ?_ ?_
    · exact congrArg Value.bool (decide_eq_true (by omega))
    repeat (first | refine r_op rfl rfl rfl rfl ?_ | refine r_skip rfl rfl rfl ?_ | refine .done ?_ | refine r_seq (T := TT) ?_ | refine r_region (T := TT) rfl ?_ | refine r_block (T := TT) ?_ | refine r_then (T := TT) rfl ?_ | refine r_else (T := TT) rfl ?_)
    refine r_call (c2) rfl rfl rfl rfl rfl rfl rfl ?_
    repeat (first | refine r_op rfl rfl rfl rfl ?_ | refine r_skip rfl rfl rfl ?_ | refine .done ?_ | refine r_seq (T := TT) ?_ | refine r_region (T := TT) rfl ?_ | refine r_block (T := TT) ?_ | refine r_then (T := TT) rfl ?_ | refine r_else (T := TT) rfl ?_)
    exact r_fin (T := TT) rfl rfl
  · rw [decide_eq_false hk, Bool.false_and]
    refine callOK_of TT_ok mixT Tryz.func53 rfl rfl (Nat.le_of_ble_eq_true rfl) ?_
    repeat (first | refine r_op rfl rfl rfl rfl ?_ | refine r_skip rfl rfl rfl ?_ | refine .done ?_ | refine r_seq (T := TT) ?_ | refine r_region (T := TT) rfl ?_ | refine r_block (T := TT) ?_ | refine r_then (T := TT) rfl ?_ | refine r_else (T := TT) rfl ?_)
    refine r_call (c1) rfl rfl rfl rfl rfl rfl rfl ?_
    refine r_eq (v' := .bool false) rfl rfl rfl rfl ?_ ?_
    · exact congrArg Value.bool (decide_eq_false (by omega))
    repeat (first | refine r_op rfl rfl rfl rfl ?_ | refine r_skip rfl rfl rfl ?_ | refine .done ?_ | refine r_seq (T := TT) ?_ | refine r_region (T := TT) rfl ?_ | refine r_block (T := TT) ?_ | refine r_then (T := TT) rfl ?_ | refine r_else (T := TT) rfl ?_)
    exact r_fin (T := TT) rfl rfl
theorem ok_l23_small (x : Rx) (hx : WdX x) (m : Nat) (hm : m ≤ 1000000) : CallOK Tryz.prog 20 [dR x, dN .i64 m] (.one (dB (decide (ndX x m ≤ m) && (decide (ndX x 120 ≤ 120) && ltX x)))) := by
  have c1 := ok_Nodes x hx m hm
  have c2 := ok_r22_Small x hx
  have hn := ndX_le x m
  obtain ⟨o1, na1, xs1, nb1, ys1, nm1, n1, cs1, hA⟩ := aR_form x
  rw [show dR x = .agg (cell7 o1 na1 xs1 nb1 ys1 nm1 n1 cs1) from congrArg DV.agg hA] at c1 c2 ⊢
  generalize ndX x m = k at *
  by_cases hk : k ≤ m
  · rw [decide_eq_true hk, Bool.true_and]
    refine callOK_of TT_ok mixT Tryz.func20 rfl rfl (Nat.le_of_ble_eq_true rfl) ?_
    repeat (first | refine r_op rfl rfl rfl rfl ?_ | refine r_skip rfl rfl rfl ?_ | refine .done ?_ | refine r_seq (T := TT) ?_ | refine r_region (T := TT) rfl ?_ | refine r_block (T := TT) ?_ | refine r_then (T := TT) rfl ?_ | refine r_else (T := TT) rfl ?_)
    refine r_call (c1) rfl rfl rfl rfl rfl rfl rfl ?_
    iterate 1 (first | refine r_op rfl rfl rfl rfl ?_ | refine r_skip rfl rfl rfl ?_)
    refine r_eq (v' := .bool true) rfl rfl rfl rfl ?_ ?_
    · exact congrArg Value.bool (decide_eq_true (by omega))
    repeat (first | refine r_op rfl rfl rfl rfl ?_ | refine r_skip rfl rfl rfl ?_ | refine .done ?_ | refine r_seq (T := TT) ?_ | refine r_region (T := TT) rfl ?_ | refine r_block (T := TT) ?_ | refine r_then (T := TT) rfl ?_ | refine r_else (T := TT) rfl ?_)
    refine r_call (c2) rfl rfl rfl rfl rfl rfl rfl ?_
    repeat (first | refine r_op rfl rfl rfl rfl ?_ | refine r_skip rfl rfl rfl ?_ | refine .done ?_ | refine r_seq (T := TT) ?_ | refine r_region (T := TT) rfl ?_ | refine r_block (T := TT) ?_ | refine r_then (T := TT) rfl ?_ | refine r_else (T := TT) rfl ?_)
    exact r_fin (T := TT) rfl rfl
  · rw [decide_eq_false hk, Bool.false_and]
    refine callOK_of TT_ok mixT Tryz.func20 rfl rfl (Nat.le_of_ble_eq_true rfl) ?_
    repeat (first | refine r_op rfl rfl rfl rfl ?_ | refine r_skip rfl rfl rfl ?_ | refine .done ?_ | refine r_seq (T := TT) ?_ | refine r_region (T := TT) rfl ?_ | refine r_block (T := TT) ?_ | refine r_then (T := TT) rfl ?_ | refine r_else (T := TT) rfl ?_)
    refine r_call (c1) rfl rfl rfl rfl rfl rfl rfl ?_
    iterate 1 (first | refine r_op rfl rfl rfl rfl ?_ | refine r_skip rfl rfl rfl ?_)
    refine r_eq (v' := .bool false) rfl rfl rfl rfl ?_ ?_
    · exact congrArg Value.bool (decide_eq_false (by omega))
    repeat (first | refine r_op rfl rfl rfl rfl ?_ | refine r_skip rfl rfl rfl ?_ | refine .done ?_ | refine r_seq (T := TT) ?_ | refine r_region (T := TT) rfl ?_ | refine r_block (T := TT) ?_ | refine r_then (T := TT) rfl ?_ | refine r_else (T := TT) rfl ?_)
    exact r_fin (T := TT) rfl rfl
def pw : Rat → Nat → Rat
  | q, 0 => q
  | q, k + 1 => pw q k * ((10 : Int) : Rat)
theorem int_sz1 {n : Int} (h : n.natAbs < 4294967296) : SzQ 1 (n : Rat) := ⟨Sz.small h, Sz.small (z := 1) (by decide)⟩
theorem pw_sz {q : Rat} {n : Nat} (h : SzQ n q) : ∀ k, SzQ (n + k) (pw q k)
  | 0 => h
  | k + 1 => by
    have := SzQ.mul (pw_sz h k) (int_sz1 (n := 10) (by decide))
    rwa [Nat.add_assoc] at this
theorem pw_least (q : Rat) : ∀ n, ∃ K, K ≤ n ∧ (∀ j, j < K → ¬ (((pw q j).den : Int) = 1)) ∧ (K = n ∨ ((pw q K).den : Int) = 1)
  | 0 => ⟨0, Nat.le_refl _, fun j h => absurd h (Nat.not_lt_zero _), .inl rfl⟩
  | n + 1 => by
    obtain ⟨K, h1, h2, h3⟩ := pw_least q n
    rcases h3 with rfl | h3
    · by_cases e : ((pw q K).den : Int) = 1
      · exact ⟨K, by omega, h2, .inr e⟩
      · exact ⟨K + 1, Nat.le_refl _, fun j hj => by
          by_cases ej : j = K
          · subst ej; exact e
          · exact h2 j (by omega), .inl rfl⟩
    · exact ⟨K, by omega, h2, .inr h3⟩
def padT (k : Nat) (t : List UInt8) : List UInt8 := List.replicate (k + 1 - t.length) 48 ++ t
def dotT (k : Nat) (t : List UInt8) : List UInt8 := if 0 < k then (padT k t).take ((padT k t).length - k) ++ [46] ++ (padT k t).drop ((padT k t).length - k) else padT k t
set_option maxHeartbeats 4000000 in
theorem ok_Decimal {na nb : Bool} {xs ys : List Nat} (hw : Wd xs) (hw' : Wd ys) (h1 : xs.length ≤ 8) (h2 : ys.length ≤ 8) :
    ∃ t b, CallOK Tryz.prog 114 [dI2 na xs nb ys] (.tup [dL t, dB b]) ∧ (b = true → ∃ q, aI2 na xs nb ys = aQ q ∧ SzQ 8 q ∧ xs = digs q.num.natAbs ∧ ys = digs (q.den : Int).natAbs) := by
  cases hv : validQ na xs nb ys with
  | false =>
    refine ⟨[], false, ?_, fun h => by cases h⟩
    refine callOK_of TT_ok mixT Tryz.func114 rfl rfl (Nat.le_of_ble_eq_true rfl) ?_
    repeat (first | refine r_op rfl rfl rfl rfl ?_ | refine r_skip rfl rfl rfl ?_ | refine .done ?_ | refine r_seq (T := TT) ?_ | refine r_region (T := TT) rfl ?_ | refine r_block (T := TT) ?_ | refine r_then (T := TT) rfl ?_ | refine r_else (T := TT) rfl ?_)
    refine r_call (ok_r2_Valid' hw hw' (Nat.le_trans h1 (by decide)) (Nat.le_trans h2 (by decide)) hv) rfl rfl rfl rfl rfl rfl rfl ?_
    repeat (first | refine r_op rfl rfl rfl rfl ?_ | refine r_skip rfl rfl rfl ?_ | refine .done ?_ | refine r_seq (T := TT) ?_ | refine r_region (T := TT) rfl ?_ | refine r_block (T := TT) ?_ | refine r_then (T := TT) rfl ?_ | refine r_else (T := TT) rfl ?_)
    exact r_fin (T := TT) rfl rfl
  | true =>
    obtain ⟨q, e, e1, e2⟩ := valid_rat hw hw' hv
    have sq : SzQ 8 q := ⟨Sz.of_digs (by rw [← e1]; exact h1), Sz.of_digs (by rw [← e2]; exact h2)⟩
    have hd : dI2 na xs nb ys = dQ q := congrArg DV.agg e
    rw [hd]
    have cv : CallOK Tryz.prog 69 [dQ q] (.one (dB true)) := ok_r2_ValidQ q sq (by decide)
    by_cases hneg : sgQ q < 0
    · refine ⟨[], false, ?_, fun h => by cases h⟩
      refine callOK_of TT_ok mixT Tryz.func114 rfl rfl (Nat.le_of_ble_eq_true rfl) ?_
      repeat (first | refine r_op rfl rfl rfl rfl ?_ | refine r_skip rfl rfl rfl ?_ | refine .done ?_ | refine r_seq (T := TT) ?_ | refine r_region (T := TT) rfl ?_ | refine r_block (T := TT) ?_ | refine r_then (T := TT) rfl ?_ | refine r_else (T := TT) rfl ?_)
      refine r_call (cv) rfl rfl rfl rfl rfl rfl rfl ?_
      repeat (first | refine r_op rfl rfl rfl rfl ?_ | refine r_skip rfl rfl rfl ?_ | refine .done ?_ | refine r_seq (T := TT) ?_ | refine r_region (T := TT) rfl ?_ | refine r_block (T := TT) ?_ | refine r_then (T := TT) rfl ?_ | refine r_else (T := TT) rfl ?_)
      refine r_call (ok_r2_Sign q) rfl rfl rfl rfl rfl rfl rfl ?_
      refine r_eq (v' := .bool true) rfl rfl rfl rfl ?_ ?_
      · exact congrArg Value.bool (decide_eq_true hneg)
      repeat (first | refine r_op rfl rfl rfl rfl ?_ | refine r_skip rfl rfl rfl ?_ | refine .done ?_ | refine r_seq (T := TT) ?_ | refine r_region (T := TT) rfl ?_ | refine r_block (T := TT) ?_ | refine r_then (T := TT) rfl ?_ | refine r_else (T := TT) rfl ?_)
      exact r_fin (T := TT) rfl rfl
    · obtain ⟨K, k1, k2, k3⟩ := pw_least q 41
      have main : ∀ t b, (K = 41 → t = [] ∧ b = false) → (K ≤ 40 → t = dotT K (fmt (pw q K).num) ∧ b = decide (t.length ≤ 40)) → CallOK Tryz.prog 114 [dQ q] (.tup [dL t, dB b]) := by
        intro t b g1 g2
        refine callOK_of TT_ok mixT Tryz.func114 rfl rfl (Nat.le_of_ble_eq_true rfl) ?_
        repeat (first | refine r_op rfl rfl rfl rfl ?_ | refine r_skip rfl rfl rfl ?_ | refine .done ?_ | refine r_seq (T := TT) ?_ | refine r_region (T := TT) rfl ?_ | refine r_block (T := TT) ?_ | refine r_then (T := TT) rfl ?_ | refine r_else (T := TT) rfl ?_)
        refine r_call (cv) rfl rfl rfl rfl rfl rfl rfl ?_
        repeat (first | refine r_op rfl rfl rfl rfl ?_ | refine r_skip rfl rfl rfl ?_ | refine .done ?_ | refine r_seq (T := TT) ?_ | refine r_region (T := TT) rfl ?_ | refine r_block (T := TT) ?_ | refine r_then (T := TT) rfl ?_ | refine r_else (T := TT) rfl ?_)
        refine r_call (ok_r2_Sign q) rfl rfl rfl rfl rfl rfl rfl ?_
        refine r_eq (v' := .bool false) rfl rfl rfl rfl ?_ ?_
        · exact congrArg Value.bool (decide_eq_false hneg)
        repeat (first | refine r_op rfl rfl rfl rfl ?_ | refine r_skip rfl rfl rfl ?_ | refine .done ?_ | refine r_seq (T := TT) ?_ | refine r_region (T := TT) rfl ?_ | refine r_block (T := TT) ?_ | refine r_then (T := TT) rfl ?_ | refine r_else (T := TT) rfl ?_)
        refine r_call (ok_r2_FromInt 10 (by decide) (by decide) (q := ((10 : Int) : Rat)) rfl) rfl rfl rfl rfl rfl rfl rfl ?_
        repeat (first | refine r_op rfl rfl rfl rfl ?_ | refine r_skip rfl rfl rfl ?_ | refine .done ?_ | refine r_seq (T := TT) ?_ | refine r_region (T := TT) rfl ?_ | refine r_block (T := TT) ?_ | refine r_then (T := TT) rfl ?_ | refine r_else (T := TT) rfl ?_)
        refine r_call (ok_r1_FromInt 1 (by decide) (by decide)) rfl rfl rfl rfl rfl rfl rfl ?_
        repeat (first | refine r_op rfl rfl rfl rfl ?_ | refine r_skip rfl rfl rfl ?_ | refine .done ?_ | refine r_seq (T := TT) ?_ | refine r_region (T := TT) rfl ?_ | refine r_block (T := TT) ?_ | refine r_then (T := TT) rfl ?_ | refine r_else (T := TT) rfl ?_)
        refine r_loop Nat (fun k => k ≤ K) (fun k => ⟨[(1, .box 0 0), (2, .d (dL [])), (3, .d (dB false)), (4, .box 3001 0), (5, .box 4001 0), (6, .box 5001 0), (7, .d (dN .i64 k))], [(0, some (aQ q)), (3001, some (aQ ((10 : Int) : Rat))), (4001, some (aZ 1)), (5001, some (aQ (pw q k)))]⟩) (fun k => 41 - k) 0 (Nat.zero_le _)
          (weak ⟨rfl, rfl, rfl, rfl, rfl, rfl, rfl, trivial⟩ ⟨rfl, rfl, rfl, rfl, trivial⟩ rfl) ?_
        intro k hk
        have sk := pw_sz sq k
        repeat refine r_seq (T := TT) ?_
        refine r_region (T := TT) rfl ?_
        iterate 1 (first | refine r_op rfl rfl rfl rfl ?_ | refine r_skip rfl rfl rfl ?_)
        by_cases h40 : k ≤ 40
        · refine r_eq (v' := .bool true) rfl rfl rfl rfl ?_ ?_
          · exact congrArg Value.bool (decide_eq_true (by omega))
          repeat (first | refine r_op rfl rfl rfl rfl ?_ | refine r_skip rfl rfl rfl ?_ | refine .done ?_ | refine r_seq (T := TT) ?_ | refine r_region (T := TT) rfl ?_ | refine r_block (T := TT) ?_ | refine r_then (T := TT) rfl ?_ | refine r_else (T := TT) rfl ?_)
          have hcs := okz_same (pw q k).den 1
          by_cases hd1 : ((pw q k).den : Int) = 1
          · have hkK : k = K := by
              rcases Nat.lt_or_ge k K with h | h
              · exact absurd hd1 (k2 k h)
              · omega
            rw [decide_eq_true hd1] at hcs
            obtain ⟨rfl, rfl⟩ := g2 (by omega)
            subst hkK
            refine r_call (hcs) rfl rfl rfl rfl rfl rfl rfl ?_
            repeat (first | refine r_op rfl rfl rfl rfl ?_ | refine r_skip rfl rfl rfl ?_ | refine .done ?_ | refine r_seq (T := TT) ?_ | refine r_region (T := TT) rfl ?_ | refine r_block (T := TT) ?_ | refine r_then (T := TT) rfl ?_ | refine r_else (T := TT) rfl ?_)
            have hlen : (fmt (pw q k).num).length ≤ 10 * (8 + k) + 2 := fmt_len sk.1
            refine r_call (okz_r1_Format (FitZ.of_lt sk.1 (by omega))) rfl rfl rfl rfl rfl rfl rfl ?_
            unfold dotT padT
            generalize fmt (pw q k).num = u at *
            repeat (first | refine r_op rfl rfl rfl rfl ?_ | refine r_skip rfl rfl rfl ?_ | refine .done ?_ | refine r_seq (T := TT) ?_ | refine r_region (T := TT) rfl ?_ | refine r_block (T := TT) ?_ | refine r_then (T := TT) rfl ?_ | refine r_else (T := TT) rfl ?_)
            refine r_loop Nat (fun j => j ≤ k + 1 - u.length) (fun j => ⟨[(2, .d (dL [])), (3, .d (dB false)), (7, .d (dN .i64 k)), (8, .d (dL (List.replicate j 48 ++ u)))], []⟩) (fun j => k + 1 - u.length - j) 0 (Nat.zero_le _)
              (weak ⟨rfl, rfl, rfl, rfl, trivial⟩ trivial rfl) ?_
            intro j hj
            have hB : (Bs (List.replicate j 48 ++ u)).size = j + u.length := by rw [Bs_size]; simp
            repeat refine r_seq (T := TT) ?_
            refine r_region (T := TT) rfl ?_
            iterate 3 (first | refine r_op rfl rfl rfl rfl ?_ | refine r_skip rfl rfl rfl ?_)
            by_cases hjk : j + u.length ≤ k
            · refine r_eq (v' := .bool true) rfl rfl rfl rfl ?_ ?_
              · exact congrArg Value.bool (decide_eq_true (by omega))
              repeat (first | refine r_op rfl rfl rfl rfl ?_ | refine r_skip rfl rfl rfl ?_ | refine .done ?_ | refine r_seq (T := TT) ?_ | refine r_region (T := TT) rfl ?_ | refine r_block (T := TT) ?_ | refine r_then (T := TT) rfl ?_ | refine r_else (T := TT) rfl ?_)
              refine r_bin rfl rfl rfl rfl rfl rfl rfl (binV_cat (a := [48]) (b := List.replicate j 48 ++ u) (by simp; omega)) ?_
              repeat (first | refine r_op rfl rfl rfl rfl ?_ | refine r_skip rfl rfl rfl ?_ | refine .done ?_ | refine r_seq (T := TT) ?_ | refine r_region (T := TT) rfl ?_ | refine r_block (T := TT) ?_ | refine r_then (T := TT) rfl ?_ | refine r_else (T := TT) rfl ?_)
              exact ⟨j + 1, by omega, by omega, weak ⟨rfl, rfl, rfl, rfl, trivial⟩ trivial rfl⟩
            · refine r_eq (v' := .bool false) rfl rfl rfl rfl ?_ ?_
              · exact congrArg Value.bool (decide_eq_false (by omega))
              obtain rfl : j = k + 1 - u.length := by omega
              have hwl : (List.replicate (k + 1 - u.length) 48 ++ u).length = k + 1 - u.length + u.length := by simp
              generalize hwd : List.replicate (k + 1 - u.length) 48 ++ u = w at *
              repeat (first | refine r_op rfl rfl rfl rfl ?_ | refine r_skip rfl rfl rfl ?_ | refine .done ?_)
              refine r_seq (T := TT) ?_
              refine r_else (T := TT) rfl ?_
              refine r_exit ?_
              repeat refine r_seq (T := TT) ?_
              refine r_region (T := TT) rfl ?_
              iterate 1 (first | refine r_op rfl rfl rfl rfl ?_ | refine r_skip rfl rfl rfl ?_)
              by_cases hk0 : 0 < k
              · rw [if_pos hk0]
                refine r_eq (v' := .bool true) rfl rfl rfl rfl ?_ ?_
                · exact congrArg Value.bool (decide_eq_true (by omega))
                repeat (first | refine r_op rfl rfl rfl rfl ?_ | refine r_skip rfl rfl rfl ?_ | refine .done ?_)
                refine r_seq (T := TT) ?_
                refine r_then (T := TT) rfl ?_
                repeat (first | refine r_seq (T := TT) ?_ | refine r_block (T := TT) ?_)
                refine r_region (T := TT) rfl ?_
                iterate 4 (first | refine r_op rfl rfl rfl rfl ?_ | refine r_skip rfl rfl rfl ?_)
                refine r_eq (v' := .int .i64 ((w.length - k : Nat))) rfl rfl rfl rfl ?_ ?_
                · exact congrArg (Value.int .i64) (by rw [IntWalk.i64_in _ (by omega)]; omega)
                refine r_shi TT_ok (l := w) (i := w.length - k) (by omega) rfl rfl rfl rfl rfl rfl rfl rfl ?_
                refine r_bin rfl rfl rfl rfl rfl rfl rfl (binV_cat (a := w.take (w.length - k)) (b := [46]) (by simp; omega)) ?_
                iterate 4 (first | refine r_op rfl rfl rfl rfl ?_ | refine r_skip rfl rfl rfl ?_)
                refine r_eq (v' := .int .i64 ((w.length - k : Nat))) rfl rfl rfl rfl ?_ ?_
                · exact congrArg (Value.int .i64) (by rw [IntWalk.i64_in _ (by omega)]; omega)
                refine r_slo TT_ok (l := w) (i := w.length - k) (by omega) rfl rfl rfl rfl rfl rfl rfl rfl ?_
                refine r_bin rfl rfl rfl rfl rfl rfl rfl (binV_cat (a := w.take (w.length - k) ++ [46]) (b := w.drop (w.length - k)) (by simp; omega)) ?_
                generalize hz : w.take (w.length - k) ++ [46] ++ w.drop (w.length - k) = z
                have hzB := Bs_size z
                repeat (first | refine r_op rfl rfl rfl rfl ?_ | refine r_skip rfl rfl rfl ?_ | refine .done ?_)
                repeat refine r_seq (T := TT) ?_
                refine r_region (T := TT) rfl ?_
                iterate 3 (first | refine r_op rfl rfl rfl rfl ?_ | refine r_skip rfl rfl rfl ?_)
                refine r_eq (v' := .bool (decide (z.length ≤ 40))) rfl rfl rfl rfl ?_ ?_
                · exact congrArg Value.bool (decide_eq_decide.2 (by omega))
                repeat (first | refine r_op rfl rfl rfl rfl ?_ | refine r_skip rfl rfl rfl ?_ | refine .done ?_ | refine r_seq (T := TT) ?_ | refine r_region (T := TT) rfl ?_ | refine r_block (T := TT) ?_ | refine r_then (T := TT) rfl ?_ | refine r_else (T := TT) rfl ?_)
                exact r_fin (T := TT) rfl rfl
              · rw [if_neg hk0]
                refine r_eq (v' := .bool false) rfl rfl rfl rfl ?_ ?_
                · exact congrArg Value.bool (decide_eq_false (by omega))
                repeat (first | refine r_op rfl rfl rfl rfl ?_ | refine r_skip rfl rfl rfl ?_ | refine .done ?_)
                refine r_seq (T := TT) ?_
                refine r_else (T := TT) rfl ?_
                repeat refine r_seq (T := TT) ?_
                refine r_region (T := TT) rfl ?_
                iterate 3 (first | refine r_op rfl rfl rfl rfl ?_ | refine r_skip rfl rfl rfl ?_)
                refine r_eq (v' := .bool (decide (w.length ≤ 40))) rfl rfl rfl rfl ?_ ?_
                · exact congrArg Value.bool (decide_eq_decide.2 (by omega))
                repeat (first | refine r_op rfl rfl rfl rfl ?_ | refine r_skip rfl rfl rfl ?_ | refine .done ?_ | refine r_seq (T := TT) ?_ | refine r_region (T := TT) rfl ?_ | refine r_block (T := TT) ?_ | refine r_then (T := TT) rfl ?_ | refine r_else (T := TT) rfl ?_)
                exact r_fin (T := TT) rfl rfl
          · rw [decide_eq_false hd1] at hcs
            refine r_call (hcs) rfl rfl rfl rfl rfl rfl rfl ?_
            repeat (first | refine r_op rfl rfl rfl rfl ?_ | refine r_skip rfl rfl rfl ?_ | refine .done ?_ | refine r_seq (T := TT) ?_ | refine r_region (T := TT) rfl ?_ | refine r_block (T := TT) ?_ | refine r_then (T := TT) rfl ?_ | refine r_else (T := TT) rfl ?_)
            refine r_call (ok_r2_Mul sk (int_sz1 (n := 10) (by decide)) (by omega) (q := pw q (k + 1)) rfl) rfl rfl rfl rfl rfl rfl rfl ?_
            repeat (first | refine r_op rfl rfl rfl rfl ?_ | refine r_skip rfl rfl rfl ?_ | refine .done ?_ | refine r_seq (T := TT) ?_ | refine r_region (T := TT) rfl ?_ | refine r_block (T := TT) ?_ | refine r_then (T := TT) rfl ?_ | refine r_else (T := TT) rfl ?_)
            exact ⟨k + 1, by
              rcases Nat.lt_or_ge k K with h | h
              · exact h
              · obtain rfl : k = K := by omega
                rcases k3 with rfl | k3
                · omega
                · exact absurd k3 hd1, by omega, weak ⟨rfl, rfl, rfl, rfl, rfl, rfl, tv_i64 (by omega) (by omega), trivial⟩ ⟨rfl, rfl, rfl, rfl, trivial⟩ rfl⟩
        · refine r_eq (v' := .bool false) rfl rfl rfl rfl ?_ ?_
          · exact congrArg Value.bool (decide_eq_false (by omega))
          obtain ⟨rfl, rfl⟩ := g1 (by omega)
          repeat (first | refine r_op rfl rfl rfl rfl ?_ | refine r_skip rfl rfl rfl ?_ | refine .done ?_ | refine r_seq (T := TT) ?_ | refine r_region (T := TT) rfl ?_ | refine r_block (T := TT) ?_ | refine r_then (T := TT) rfl ?_ | refine r_else (T := TT) rfl ?_)
          exact r_fin (T := TT) rfl rfl
      by_cases h41 : K = 41
      · exact ⟨[], false, main _ _ (fun _ => ⟨rfl, rfl⟩) (fun h => by omega), fun h => by cases h⟩
      · exact ⟨_, _, main _ _ (fun h => absurd h h41) (fun _ => ⟨rfl, rfl⟩), fun _ => ⟨q, e, sq, e1, e2⟩⟩
end Go.Proofs.YtmpadildchphgaaGreatDoor
namespace Go.Proofs.YtmpadildchphgaaGreatDoor
open Go.RowKit
def ShpX : Rx → Prop
  | .mk op na xs nb ys nm args => (op = 1 ∧ args = [] ∧ ∃ q, aI2 na xs nb ys = aQ q ∧ SzQ 8 q ∧ xs = digs q.num.natAbs ∧ ys = digs (q.den : Int).natAbs) ∨
      ((na = false ∧ nb = false ∧ xs = [] ∧ ys = []) ∧ ((op = 2 ∧ args = []) ∨ (op = 3 ∧ nm = [] ∧ args.length = 1) ∨ ((op = 4 ∨ op = 5 ∨ op = 6 ∨ op = 7) ∧ nm = [] ∧ args.length = 2)))
def plX (na : Bool) (xs : List Nat) (nb : Bool) (ys : List Nat) : Bool := !na && (!nb && (decide (xs.length = 0) && decide (ys.length = 0)))
theorem plX_eq {na nb : Bool} {xs ys : List Nat} (h : plX na xs nb ys = true) : na = false ∧ nb = false ∧ xs = [] ∧ ys = [] := by
  unfold plX at h
  simp only [Bool.and_eq_true, Bool.not_eq_true', decide_eq_true_eq] at h
  exact ⟨h.1, h.2.1, List.eq_nil_of_length_eq_zero h.2.2.1, List.eq_nil_of_length_eq_zero h.2.2.2⟩
set_option maxHeartbeats 8000000 in
theorem ok_shape {op : Int} {na : Bool} {xs : List Nat} {nb : Bool} {ys : List Nat} {nm : List UInt8} {args : List Rx} (hw : Wd xs) (hw' : Wd ys) (h1 : xs.length ≤ 8) (h2 : ys.length ≤ 8) :
    ∃ b, CallOK Tryz.prog 83 [dR (.mk op na xs nb ys nm args)] (.one (dB b)) ∧ (b = true → ShpX (.mk op na xs nb ys nm args)) := by
  obtain ⟨t, d, hdec, hdq⟩ := ok_Decimal (na := na) (nb := nb) hw hw' h1 h2
  obtain ⟨m, hm⟩ := ok_IsName nm
  have main : ∀ b, (op = 1 → b = (d && (decide (nm = []) || m) && decide (args.length = 0))) →
      (op = 2 → b = (plX na xs nb ys && m && decide (args.length = 0))) →
      (op = 3 → b = (plX na xs nb ys && decide (nm = []) && decide (args.length = 1))) →
      (op = 4 ∨ op = 5 ∨ op = 6 ∨ op = 7 → b = (plX na xs nb ys && decide (nm = []) && decide (args.length = 2))) →
      (op ≠ 1 → op ≠ 2 → op ≠ 3 → op ≠ 4 → op ≠ 5 → op ≠ 6 → op ≠ 7 → b = false) →
      CallOK Tryz.prog 83 [dR (.mk op na xs nb ys nm args)] (.one (dB b)) := by
    intro b b1 b2 b3 b4 b0
    show CallOK Tryz.prog _ [.agg (cell7 op na xs nb ys nm args.length (aRs args))] _
    generalize hp : plX na xs nb ys = p at *
    refine callOK_of TT_ok mixT Tryz.func83 rfl rfl (Nat.le_of_ble_eq_true rfl) ?_
    repeat refine r_seq (T := TT) ?_
    refine r_region (T := TT) rfl ?_
    repeat (first | refine r_op rfl rfl rfl rfl ?_ | refine r_skip rfl rfl rfl ?_)
    try refine .done ?_
    refine r_cut ⟨[(1, .box 0 0), (3, .d (dB p))], [(0, some (cell7 op na xs nb ys nm args.length (aRs args)))]⟩ (fun s' hw2 => ?_) (fun R hR _ => ?_)
    · refine r_weak hw2 rfl ?_
      by_cases o1 : op = 1
      · have hb := b1 o1
        clear b1 b2 b3 b4 b0
        subst o1
        repeat (first | refine r_op rfl rfl rfl rfl ?_ | refine r_skip rfl rfl rfl ?_ | refine .done ?_ | refine r_seq (T := TT) ?_ | refine r_region (T := TT) rfl ?_ | refine r_block (T := TT) ?_ | refine r_then (T := TT) rfl ?_ | refine r_else (T := TT) rfl ?_)
        refine r_call (hdec) rfl rfl rfl rfl rfl rfl rfl ?_
        cases d
        · obtain rfl : b = false := by rw [hb]; rfl
          repeat (first | refine r_op rfl rfl rfl rfl ?_ | refine r_skip rfl rfl rfl ?_ | refine .done ?_ | refine r_seq (T := TT) ?_ | refine r_region (T := TT) rfl ?_ | refine r_block (T := TT) ?_ | refine r_then (T := TT) rfl ?_ | refine r_else (T := TT) rfl ?_)
          exact r_fin (T := TT) rfl rfl
        · iterate 1 ((repeat (first | refine r_op rfl rfl rfl rfl ?_ | refine r_skip rfl rfl rfl ?_ | refine .done ?_ | refine r_seq (T := TT) ?_ | refine r_block (T := TT) ?_ | refine r_then (T := TT) rfl ?_ | refine r_else (T := TT) rfl ?_)); refine r_region (T := TT) rfl ?_)
          iterate 4 (first | refine r_op rfl rfl rfl rfl ?_ | refine r_skip rfl rfl rfl ?_)
          by_cases hnm : nm = []
          · refine r_bin rfl rfl rfl rfl rfl rfl rfl (binV_eqT (a := nm) (b := []) hnm) ?_
            iterate 10 (first | refine r_op rfl rfl rfl rfl ?_ | refine r_skip rfl rfl rfl ?_)
            by_cases hl : args.length = 0
            · refine r_eq (v' := .bool true) rfl rfl rfl rfl ?_ ?_
              · exact congrArg Value.bool (decide_eq_true (by omega))
              obtain rfl : b = true := by rw [hb]; simp [hnm, hl]
              repeat (first | refine r_op rfl rfl rfl rfl ?_ | refine r_skip rfl rfl rfl ?_ | refine .done ?_ | refine r_seq (T := TT) ?_ | refine r_region (T := TT) rfl ?_ | refine r_block (T := TT) ?_ | refine r_then (T := TT) rfl ?_ | refine r_else (T := TT) rfl ?_)
              exact r_fin (T := TT) rfl rfl
            · refine r_eq (v' := .bool false) rfl rfl rfl rfl ?_ ?_
              · exact congrArg Value.bool (decide_eq_false (by omega))
              obtain rfl : b = false := by rw [hb, decide_eq_false hl, Bool.and_false]
              repeat (first | refine r_op rfl rfl rfl rfl ?_ | refine r_skip rfl rfl rfl ?_ | refine .done ?_ | refine r_seq (T := TT) ?_ | refine r_region (T := TT) rfl ?_ | refine r_block (T := TT) ?_ | refine r_then (T := TT) rfl ?_ | refine r_else (T := TT) rfl ?_)
              exact r_fin (T := TT) rfl rfl
          · refine r_bin rfl rfl rfl rfl rfl rfl rfl (binV_eqF (a := nm) (b := []) hnm) ?_
            iterate 3 (first | refine r_op rfl rfl rfl rfl ?_ | refine r_skip rfl rfl rfl ?_)
            refine r_call (hm) rfl rfl rfl rfl rfl rfl rfl ?_
            cases m
            · obtain rfl : b = false := by rw [hb]; simp [hnm]
              repeat (first | refine r_op rfl rfl rfl rfl ?_ | refine r_skip rfl rfl rfl ?_ | refine .done ?_ | refine r_seq (T := TT) ?_ | refine r_region (T := TT) rfl ?_ | refine r_block (T := TT) ?_ | refine r_then (T := TT) rfl ?_ | refine r_else (T := TT) rfl ?_)
              exact r_fin (T := TT) rfl rfl
            · iterate 6 (first | refine r_op rfl rfl rfl rfl ?_ | refine r_skip rfl rfl rfl ?_)
              by_cases hl : args.length = 0
              · refine r_eq (v' := .bool true) rfl rfl rfl rfl ?_ ?_
                · exact congrArg Value.bool (decide_eq_true (by omega))
                obtain rfl : b = true := by rw [hb]; simp [hl]
                repeat (first | refine r_op rfl rfl rfl rfl ?_ | refine r_skip rfl rfl rfl ?_ | refine .done ?_ | refine r_seq (T := TT) ?_ | refine r_region (T := TT) rfl ?_ | refine r_block (T := TT) ?_ | refine r_then (T := TT) rfl ?_ | refine r_else (T := TT) rfl ?_)
                exact r_fin (T := TT) rfl rfl
              · refine r_eq (v' := .bool false) rfl rfl rfl rfl ?_ ?_
                · exact congrArg Value.bool (decide_eq_false (by omega))
                obtain rfl : b = false := by rw [hb, decide_eq_false hl, Bool.and_false]
                repeat (first | refine r_op rfl rfl rfl rfl ?_ | refine r_skip rfl rfl rfl ?_ | refine .done ?_ | refine r_seq (T := TT) ?_ | refine r_region (T := TT) rfl ?_ | refine r_block (T := TT) ?_ | refine r_then (T := TT) rfl ?_ | refine r_else (T := TT) rfl ?_)
                exact r_fin (T := TT) rfl rfl
      by_cases o2 : op = 2
      · have hb := b2 o2
        clear b1 b2 b3 b4 b0
        subst o2
        cases p
        · obtain rfl : b = false := by rw [hb]; rfl
          repeat (first | refine r_op rfl rfl rfl rfl ?_ | refine r_skip rfl rfl rfl ?_ | refine .done ?_ | refine r_seq (T := TT) ?_ | refine r_region (T := TT) rfl ?_ | refine r_block (T := TT) ?_ | refine r_then (T := TT) rfl ?_ | refine r_else (T := TT) rfl ?_)
          exact r_fin (T := TT) rfl rfl
        · repeat (first | refine r_op rfl rfl rfl rfl ?_ | refine r_skip rfl rfl rfl ?_ | refine .done ?_ | refine r_seq (T := TT) ?_ | refine r_region (T := TT) rfl ?_ | refine r_block (T := TT) ?_ | refine r_then (T := TT) rfl ?_ | refine r_else (T := TT) rfl ?_)
          refine r_call (hm) rfl rfl rfl rfl rfl rfl rfl ?_
          cases m
          · obtain rfl : b = false := by rw [hb]; rfl
            repeat (first | refine r_op rfl rfl rfl rfl ?_ | refine r_skip rfl rfl rfl ?_ | refine .done ?_ | refine r_seq (T := TT) ?_ | refine r_region (T := TT) rfl ?_ | refine r_block (T := TT) ?_ | refine r_then (T := TT) rfl ?_ | refine r_else (T := TT) rfl ?_)
            exact r_fin (T := TT) rfl rfl
          · iterate 5 (first | refine r_op rfl rfl rfl rfl ?_ | refine r_skip rfl rfl rfl ?_)
            by_cases hl : args.length = 0
            · refine r_eq (v' := .bool true) rfl rfl rfl rfl ?_ ?_
              · exact congrArg Value.bool (decide_eq_true (by omega))
              obtain rfl : b = true := by rw [hb]; simp [hl]
              repeat (first | refine r_op rfl rfl rfl rfl ?_ | refine r_skip rfl rfl rfl ?_ | refine .done ?_ | refine r_seq (T := TT) ?_ | refine r_region (T := TT) rfl ?_ | refine r_block (T := TT) ?_ | refine r_then (T := TT) rfl ?_ | refine r_else (T := TT) rfl ?_)
              exact r_fin (T := TT) rfl rfl
            · refine r_eq (v' := .bool false) rfl rfl rfl rfl ?_ ?_
              · exact congrArg Value.bool (decide_eq_false (by omega))
              obtain rfl : b = false := by rw [hb, decide_eq_false hl, Bool.and_false]
              repeat (first | refine r_op rfl rfl rfl rfl ?_ | refine r_skip rfl rfl rfl ?_ | refine .done ?_ | refine r_seq (T := TT) ?_ | refine r_region (T := TT) rfl ?_ | refine r_block (T := TT) ?_ | refine r_then (T := TT) rfl ?_ | refine r_else (T := TT) rfl ?_)
              exact r_fin (T := TT) rfl rfl
      by_cases o3 : op = 3
      · have hb := b3 o3
        clear b1 b2 b3 b4 b0
        subst o3
        cases p
        · obtain rfl : b = false := by rw [hb]; rfl
          repeat (first | refine r_op rfl rfl rfl rfl ?_ | refine r_skip rfl rfl rfl ?_ | refine .done ?_ | refine r_seq (T := TT) ?_ | refine r_region (T := TT) rfl ?_ | refine r_block (T := TT) ?_ | refine r_then (T := TT) rfl ?_ | refine r_else (T := TT) rfl ?_)
          exact r_fin (T := TT) rfl rfl
        · iterate 4 ((repeat (first | refine r_op rfl rfl rfl rfl ?_ | refine r_skip rfl rfl rfl ?_ | refine .done ?_ | refine r_seq (T := TT) ?_ | refine r_block (T := TT) ?_ | refine r_then (T := TT) rfl ?_ | refine r_else (T := TT) rfl ?_)); refine r_region (T := TT) rfl ?_)
          iterate 4 (first | refine r_op rfl rfl rfl rfl ?_ | refine r_skip rfl rfl rfl ?_)
          by_cases hnm : nm = []
          · refine r_bin rfl rfl rfl rfl rfl rfl rfl (binV_eqT (a := nm) (b := []) hnm) ?_
            iterate 5 (first | refine r_op rfl rfl rfl rfl ?_ | refine r_skip rfl rfl rfl ?_)
            by_cases hl : args.length = 1
            · refine r_eq (v' := .bool true) rfl rfl rfl rfl ?_ ?_
              · exact congrArg Value.bool (decide_eq_true (by omega))
              obtain rfl : b = true := by rw [hb]; simp [hnm, hl]
              repeat (first | refine r_op rfl rfl rfl rfl ?_ | refine r_skip rfl rfl rfl ?_ | refine .done ?_ | refine r_seq (T := TT) ?_ | refine r_region (T := TT) rfl ?_ | refine r_block (T := TT) ?_ | refine r_then (T := TT) rfl ?_ | refine r_else (T := TT) rfl ?_)
              exact r_fin (T := TT) rfl rfl
            · refine r_eq (v' := .bool false) rfl rfl rfl rfl ?_ ?_
              · exact congrArg Value.bool (decide_eq_false (by omega))
              obtain rfl : b = false := by rw [hb, decide_eq_false hl, Bool.and_false]
              repeat (first | refine r_op rfl rfl rfl rfl ?_ | refine r_skip rfl rfl rfl ?_ | refine .done ?_ | refine r_seq (T := TT) ?_ | refine r_region (T := TT) rfl ?_ | refine r_block (T := TT) ?_ | refine r_then (T := TT) rfl ?_ | refine r_else (T := TT) rfl ?_)
              exact r_fin (T := TT) rfl rfl
          · refine r_bin rfl rfl rfl rfl rfl rfl rfl (binV_eqF (a := nm) (b := []) hnm) ?_
            obtain rfl : b = false := by rw [hb]; simp [hnm]
            repeat (first | refine r_op rfl rfl rfl rfl ?_ | refine r_skip rfl rfl rfl ?_ | refine .done ?_ | refine r_seq (T := TT) ?_ | refine r_region (T := TT) rfl ?_ | refine r_block (T := TT) ?_ | refine r_then (T := TT) rfl ?_ | refine r_else (T := TT) rfl ?_)
            exact r_fin (T := TT) rfl rfl
      by_cases o4 : op = 4
      · have hb := b4 (by omega)
        clear b1 b2 b3 b4 b0
        subst o4
        cases p
        · obtain rfl : b = false := by rw [hb]; rfl
          repeat (first | refine r_op rfl rfl rfl rfl ?_ | refine r_skip rfl rfl rfl ?_ | refine .done ?_ | refine r_seq (T := TT) ?_ | refine r_region (T := TT) rfl ?_ | refine r_block (T := TT) ?_ | refine r_then (T := TT) rfl ?_ | refine r_else (T := TT) rfl ?_)
          exact r_fin (T := TT) rfl rfl
        · iterate 5 ((repeat (first | refine r_op rfl rfl rfl rfl ?_ | refine r_skip rfl rfl rfl ?_ | refine .done ?_ | refine r_seq (T := TT) ?_ | refine r_block (T := TT) ?_ | refine r_then (T := TT) rfl ?_ | refine r_else (T := TT) rfl ?_)); refine r_region (T := TT) rfl ?_)
          iterate 4 (first | refine r_op rfl rfl rfl rfl ?_ | refine r_skip rfl rfl rfl ?_)
          by_cases hnm : nm = []
          · refine r_bin rfl rfl rfl rfl rfl rfl rfl (binV_eqT (a := nm) (b := []) hnm) ?_
            iterate 5 (first | refine r_op rfl rfl rfl rfl ?_ | refine r_skip rfl rfl rfl ?_)
            by_cases hl : args.length = 2
            · refine r_eq (v' := .bool true) rfl rfl rfl rfl ?_ ?_
              · exact congrArg Value.bool (decide_eq_true (by omega))
              obtain rfl : b = true := by rw [hb]; simp [hnm, hl]
              repeat (first | refine r_op rfl rfl rfl rfl ?_ | refine r_skip rfl rfl rfl ?_ | refine .done ?_ | refine r_seq (T := TT) ?_ | refine r_region (T := TT) rfl ?_ | refine r_block (T := TT) ?_ | refine r_then (T := TT) rfl ?_ | refine r_else (T := TT) rfl ?_)
              exact r_fin (T := TT) rfl rfl
            · refine r_eq (v' := .bool false) rfl rfl rfl rfl ?_ ?_
              · exact congrArg Value.bool (decide_eq_false (by omega))
              obtain rfl : b = false := by rw [hb, decide_eq_false hl, Bool.and_false]
              repeat (first | refine r_op rfl rfl rfl rfl ?_ | refine r_skip rfl rfl rfl ?_ | refine .done ?_ | refine r_seq (T := TT) ?_ | refine r_region (T := TT) rfl ?_ | refine r_block (T := TT) ?_ | refine r_then (T := TT) rfl ?_ | refine r_else (T := TT) rfl ?_)
              exact r_fin (T := TT) rfl rfl
          · refine r_bin rfl rfl rfl rfl rfl rfl rfl (binV_eqF (a := nm) (b := []) hnm) ?_
            obtain rfl : b = false := by rw [hb]; simp [hnm]
            repeat (first | refine r_op rfl rfl rfl rfl ?_ | refine r_skip rfl rfl rfl ?_ | refine .done ?_ | refine r_seq (T := TT) ?_ | refine r_region (T := TT) rfl ?_ | refine r_block (T := TT) ?_ | refine r_then (T := TT) rfl ?_ | refine r_else (T := TT) rfl ?_)
            exact r_fin (T := TT) rfl rfl
      by_cases o5 : op = 5
      · have hb := b4 (by omega)
        clear b1 b2 b3 b4 b0
        subst o5
        cases p
        · obtain rfl : b = false := by rw [hb]; rfl
          repeat (first | refine r_op rfl rfl rfl rfl ?_ | refine r_skip rfl rfl rfl ?_ | refine .done ?_ | refine r_seq (T := TT) ?_ | refine r_region (T := TT) rfl ?_ | refine r_block (T := TT) ?_ | refine r_then (T := TT) rfl ?_ | refine r_else (T := TT) rfl ?_)
          exact r_fin (T := TT) rfl rfl
        · iterate 6 ((repeat (first | refine r_op rfl rfl rfl rfl ?_ | refine r_skip rfl rfl rfl ?_ | refine .done ?_ | refine r_seq (T := TT) ?_ | refine r_block (T := TT) ?_ | refine r_then (T := TT) rfl ?_ | refine r_else (T := TT) rfl ?_)); refine r_region (T := TT) rfl ?_)
          iterate 4 (first | refine r_op rfl rfl rfl rfl ?_ | refine r_skip rfl rfl rfl ?_)
          by_cases hnm : nm = []
          · refine r_bin rfl rfl rfl rfl rfl rfl rfl (binV_eqT (a := nm) (b := []) hnm) ?_
            iterate 5 (first | refine r_op rfl rfl rfl rfl ?_ | refine r_skip rfl rfl rfl ?_)
            by_cases hl : args.length = 2
            · refine r_eq (v' := .bool true) rfl rfl rfl rfl ?_ ?_
              · exact congrArg Value.bool (decide_eq_true (by omega))
              obtain rfl : b = true := by rw [hb]; simp [hnm, hl]
              repeat (first | refine r_op rfl rfl rfl rfl ?_ | refine r_skip rfl rfl rfl ?_ | refine .done ?_ | refine r_seq (T := TT) ?_ | refine r_region (T := TT) rfl ?_ | refine r_block (T := TT) ?_ | refine r_then (T := TT) rfl ?_ | refine r_else (T := TT) rfl ?_)
              exact r_fin (T := TT) rfl rfl
            · refine r_eq (v' := .bool false) rfl rfl rfl rfl ?_ ?_
              · exact congrArg Value.bool (decide_eq_false (by omega))
              obtain rfl : b = false := by rw [hb, decide_eq_false hl, Bool.and_false]
              repeat (first | refine r_op rfl rfl rfl rfl ?_ | refine r_skip rfl rfl rfl ?_ | refine .done ?_ | refine r_seq (T := TT) ?_ | refine r_region (T := TT) rfl ?_ | refine r_block (T := TT) ?_ | refine r_then (T := TT) rfl ?_ | refine r_else (T := TT) rfl ?_)
              exact r_fin (T := TT) rfl rfl
          · refine r_bin rfl rfl rfl rfl rfl rfl rfl (binV_eqF (a := nm) (b := []) hnm) ?_
            obtain rfl : b = false := by rw [hb]; simp [hnm]
            repeat (first | refine r_op rfl rfl rfl rfl ?_ | refine r_skip rfl rfl rfl ?_ | refine .done ?_ | refine r_seq (T := TT) ?_ | refine r_region (T := TT) rfl ?_ | refine r_block (T := TT) ?_ | refine r_then (T := TT) rfl ?_ | refine r_else (T := TT) rfl ?_)
            exact r_fin (T := TT) rfl rfl
      by_cases o6 : op = 6
      · have hb := b4 (by omega)
        clear b1 b2 b3 b4 b0
        subst o6
        cases p
        · obtain rfl : b = false := by rw [hb]; rfl
          repeat (first | refine r_op rfl rfl rfl rfl ?_ | refine r_skip rfl rfl rfl ?_ | refine .done ?_ | refine r_seq (T := TT) ?_ | refine r_region (T := TT) rfl ?_ | refine r_block (T := TT) ?_ | refine r_then (T := TT) rfl ?_ | refine r_else (T := TT) rfl ?_)
          exact r_fin (T := TT) rfl rfl
        · iterate 7 ((repeat (first | refine r_op rfl rfl rfl rfl ?_ | refine r_skip rfl rfl rfl ?_ | refine .done ?_ | refine r_seq (T := TT) ?_ | refine r_block (T := TT) ?_ | refine r_then (T := TT) rfl ?_ | refine r_else (T := TT) rfl ?_)); refine r_region (T := TT) rfl ?_)
          iterate 4 (first | refine r_op rfl rfl rfl rfl ?_ | refine r_skip rfl rfl rfl ?_)
          by_cases hnm : nm = []
          · refine r_bin rfl rfl rfl rfl rfl rfl rfl (binV_eqT (a := nm) (b := []) hnm) ?_
            iterate 5 (first | refine r_op rfl rfl rfl rfl ?_ | refine r_skip rfl rfl rfl ?_)
            by_cases hl : args.length = 2
            · refine r_eq (v' := .bool true) rfl rfl rfl rfl ?_ ?_
              · exact congrArg Value.bool (decide_eq_true (by omega))
              obtain rfl : b = true := by rw [hb]; simp [hnm, hl]
              repeat (first | refine r_op rfl rfl rfl rfl ?_ | refine r_skip rfl rfl rfl ?_ | refine .done ?_ | refine r_seq (T := TT) ?_ | refine r_region (T := TT) rfl ?_ | refine r_block (T := TT) ?_ | refine r_then (T := TT) rfl ?_ | refine r_else (T := TT) rfl ?_)
              exact r_fin (T := TT) rfl rfl
            · refine r_eq (v' := .bool false) rfl rfl rfl rfl ?_ ?_
              · exact congrArg Value.bool (decide_eq_false (by omega))
              obtain rfl : b = false := by rw [hb, decide_eq_false hl, Bool.and_false]
              repeat (first | refine r_op rfl rfl rfl rfl ?_ | refine r_skip rfl rfl rfl ?_ | refine .done ?_ | refine r_seq (T := TT) ?_ | refine r_region (T := TT) rfl ?_ | refine r_block (T := TT) ?_ | refine r_then (T := TT) rfl ?_ | refine r_else (T := TT) rfl ?_)
              exact r_fin (T := TT) rfl rfl
          · refine r_bin rfl rfl rfl rfl rfl rfl rfl (binV_eqF (a := nm) (b := []) hnm) ?_
            obtain rfl : b = false := by rw [hb]; simp [hnm]
            repeat (first | refine r_op rfl rfl rfl rfl ?_ | refine r_skip rfl rfl rfl ?_ | refine .done ?_ | refine r_seq (T := TT) ?_ | refine r_region (T := TT) rfl ?_ | refine r_block (T := TT) ?_ | refine r_then (T := TT) rfl ?_ | refine r_else (T := TT) rfl ?_)
            exact r_fin (T := TT) rfl rfl
      by_cases o7 : op = 7
      · have hb := b4 (by omega)
        clear b1 b2 b3 b4 b0
        subst o7
        cases p
        · obtain rfl : b = false := by rw [hb]; rfl
          repeat (first | refine r_op rfl rfl rfl rfl ?_ | refine r_skip rfl rfl rfl ?_ | refine .done ?_ | refine r_seq (T := TT) ?_ | refine r_region (T := TT) rfl ?_ | refine r_block (T := TT) ?_ | refine r_then (T := TT) rfl ?_ | refine r_else (T := TT) rfl ?_)
          exact r_fin (T := TT) rfl rfl
        · iterate 8 ((repeat (first | refine r_op rfl rfl rfl rfl ?_ | refine r_skip rfl rfl rfl ?_ | refine .done ?_ | refine r_seq (T := TT) ?_ | refine r_block (T := TT) ?_ | refine r_then (T := TT) rfl ?_ | refine r_else (T := TT) rfl ?_)); refine r_region (T := TT) rfl ?_)
          iterate 4 (first | refine r_op rfl rfl rfl rfl ?_ | refine r_skip rfl rfl rfl ?_)
          by_cases hnm : nm = []
          · refine r_bin rfl rfl rfl rfl rfl rfl rfl (binV_eqT (a := nm) (b := []) hnm) ?_
            iterate 5 (first | refine r_op rfl rfl rfl rfl ?_ | refine r_skip rfl rfl rfl ?_)
            by_cases hl : args.length = 2
            · refine r_eq (v' := .bool true) rfl rfl rfl rfl ?_ ?_
              · exact congrArg Value.bool (decide_eq_true (by omega))
              obtain rfl : b = true := by rw [hb]; simp [hnm, hl]
              repeat (first | refine r_op rfl rfl rfl rfl ?_ | refine r_skip rfl rfl rfl ?_ | refine .done ?_ | refine r_seq (T := TT) ?_ | refine r_region (T := TT) rfl ?_ | refine r_block (T := TT) ?_ | refine r_then (T := TT) rfl ?_ | refine r_else (T := TT) rfl ?_)
              exact r_fin (T := TT) rfl rfl
            · refine r_eq (v' := .bool false) rfl rfl rfl rfl ?_ ?_
              · exact congrArg Value.bool (decide_eq_false (by omega))
              obtain rfl : b = false := by rw [hb, decide_eq_false hl, Bool.and_false]
              repeat (first | refine r_op rfl rfl rfl rfl ?_ | refine r_skip rfl rfl rfl ?_ | refine .done ?_ | refine r_seq (T := TT) ?_ | refine r_region (T := TT) rfl ?_ | refine r_block (T := TT) ?_ | refine r_then (T := TT) rfl ?_ | refine r_else (T := TT) rfl ?_)
              exact r_fin (T := TT) rfl rfl
          · refine r_bin rfl rfl rfl rfl rfl rfl rfl (binV_eqF (a := nm) (b := []) hnm) ?_
            obtain rfl : b = false := by rw [hb]; simp [hnm]
            repeat (first | refine r_op rfl rfl rfl rfl ?_ | refine r_skip rfl rfl rfl ?_ | refine .done ?_ | refine r_seq (T := TT) ?_ | refine r_region (T := TT) rfl ?_ | refine r_block (T := TT) ?_ | refine r_then (T := TT) rfl ?_ | refine r_else (T := TT) rfl ?_)
            exact r_fin (T := TT) rfl rfl
      obtain rfl : b = false := b0 o1 o2 o3 o4 o5 o6 o7
      iterate 1 ((repeat (first | refine r_op rfl rfl rfl rfl ?_ | refine r_skip rfl rfl rfl ?_ | refine .done ?_ | refine r_seq (T := TT) ?_ | refine r_block (T := TT) ?_ | refine r_then (T := TT) rfl ?_ | refine r_else (T := TT) rfl ?_)); refine r_region (T := TT) rfl ?_)
      refine r_eq (v' := .bool false) rfl rfl rfl rfl ?_ ?_
      · exact congrArg Value.bool (decide_eq_false o1)
      iterate 1 ((repeat (first | refine r_op rfl rfl rfl rfl ?_ | refine r_skip rfl rfl rfl ?_ | refine .done ?_ | refine r_seq (T := TT) ?_ | refine r_block (T := TT) ?_ | refine r_then (T := TT) rfl ?_ | refine r_else (T := TT) rfl ?_)); refine r_region (T := TT) rfl ?_)
      refine r_eq (v' := .bool false) rfl rfl rfl rfl ?_ ?_
      · exact congrArg Value.bool (decide_eq_false o2)
      iterate 1 ((repeat (first | refine r_op rfl rfl rfl rfl ?_ | refine r_skip rfl rfl rfl ?_ | refine .done ?_ | refine r_seq (T := TT) ?_ | refine r_block (T := TT) ?_ | refine r_then (T := TT) rfl ?_ | refine r_else (T := TT) rfl ?_)); refine r_region (T := TT) rfl ?_)
      refine r_eq (v' := .bool false) rfl rfl rfl rfl ?_ ?_
      · exact congrArg Value.bool (decide_eq_false o3)
      iterate 1 ((repeat (first | refine r_op rfl rfl rfl rfl ?_ | refine r_skip rfl rfl rfl ?_ | refine .done ?_ | refine r_seq (T := TT) ?_ | refine r_block (T := TT) ?_ | refine r_then (T := TT) rfl ?_ | refine r_else (T := TT) rfl ?_)); refine r_region (T := TT) rfl ?_)
      refine r_eq (v' := .bool false) rfl rfl rfl rfl ?_ ?_
      · exact congrArg Value.bool (decide_eq_false o4)
      iterate 1 ((repeat (first | refine r_op rfl rfl rfl rfl ?_ | refine r_skip rfl rfl rfl ?_ | refine .done ?_ | refine r_seq (T := TT) ?_ | refine r_block (T := TT) ?_ | refine r_then (T := TT) rfl ?_ | refine r_else (T := TT) rfl ?_)); refine r_region (T := TT) rfl ?_)
      refine r_eq (v' := .bool false) rfl rfl rfl rfl ?_ ?_
      · exact congrArg Value.bool (decide_eq_false o5)
      iterate 1 ((repeat (first | refine r_op rfl rfl rfl rfl ?_ | refine r_skip rfl rfl rfl ?_ | refine .done ?_ | refine r_seq (T := TT) ?_ | refine r_block (T := TT) ?_ | refine r_then (T := TT) rfl ?_ | refine r_else (T := TT) rfl ?_)); refine r_region (T := TT) rfl ?_)
      refine r_eq (v' := .bool false) rfl rfl rfl rfl ?_ ?_
      · exact congrArg Value.bool (decide_eq_false o6)
      iterate 1 ((repeat (first | refine r_op rfl rfl rfl rfl ?_ | refine r_skip rfl rfl rfl ?_ | refine .done ?_ | refine r_seq (T := TT) ?_ | refine r_block (T := TT) ?_ | refine r_then (T := TT) rfl ?_ | refine r_else (T := TT) rfl ?_)); refine r_region (T := TT) rfl ?_)
      refine r_eq (v' := .bool false) rfl rfl rfl rfl ?_ ?_
      · exact congrArg Value.bool (decide_eq_false o7)
      repeat (first | refine r_op rfl rfl rfl rfl ?_ | refine r_skip rfl rfl rfl ?_ | refine .done ?_ | refine r_seq (T := TT) ?_ | refine r_region (T := TT) rfl ?_ | refine r_block (T := TT) ?_ | refine r_then (T := TT) rfl ?_ | refine r_else (T := TT) rfl ?_)
      exact r_fin (T := TT) rfl rfl
    · clear b1 b2 b3 b4 b0
      subst hp
      cases na
      · cases nb
        · iterate 1 ((repeat (first | refine r_op rfl rfl rfl rfl ?_ | refine r_skip rfl rfl rfl ?_ | refine .done ?_ | refine r_seq (T := TT) ?_ | refine r_block (T := TT) ?_ | refine r_then (T := TT) rfl ?_ | refine r_else (T := TT) rfl ?_)); refine r_region (T := TT) rfl ?_)
          iterate 18 (first | refine r_op rfl rfl rfl rfl ?_ | refine r_skip rfl rfl rfl ?_)
          by_cases l1 : xs.length = 0
          · refine r_eq (v' := .bool true) rfl rfl rfl rfl ?_ ?_
            · exact congrArg Value.bool (decide_eq_true (by omega))
            iterate 7 (first | refine r_op rfl rfl rfl rfl ?_ | refine r_skip rfl rfl rfl ?_)
            by_cases l2 : ys.length = 0
            · refine r_eq (v' := .bool true) rfl rfl rfl rfl ?_ ?_
              · exact congrArg Value.bool (decide_eq_true (by omega))
              repeat (first | refine r_op rfl rfl rfl rfl ?_ | refine r_skip rfl rfl rfl ?_ | refine .done ?_ | refine r_seq (T := TT) ?_ | refine r_region (T := TT) rfl ?_ | refine r_block (T := TT) ?_ | refine r_then (T := TT) rfl ?_ | refine r_else (T := TT) rfl ?_)
              rw [show plX false xs false ys = true by unfold plX; rw [decide_eq_true l1, decide_eq_true l2]; rfl] at hR
              exact hR _ (weak ⟨rfl, rfl, trivial⟩ ⟨rfl, trivial⟩ rfl)
            · refine r_eq (v' := .bool false) rfl rfl rfl rfl ?_ ?_
              · exact congrArg Value.bool (decide_eq_false (by omega))
              repeat (first | refine r_op rfl rfl rfl rfl ?_ | refine r_skip rfl rfl rfl ?_ | refine .done ?_ | refine r_seq (T := TT) ?_ | refine r_region (T := TT) rfl ?_ | refine r_block (T := TT) ?_ | refine r_then (T := TT) rfl ?_ | refine r_else (T := TT) rfl ?_)
              rw [show plX false xs false ys = false by unfold plX; rw [decide_eq_true l1, decide_eq_false l2]; rfl] at hR
              exact hR _ (weak ⟨rfl, rfl, trivial⟩ ⟨rfl, trivial⟩ rfl)
          · refine r_eq (v' := .bool false) rfl rfl rfl rfl ?_ ?_
            · exact congrArg Value.bool (decide_eq_false (by omega))
            repeat (first | refine r_op rfl rfl rfl rfl ?_ | refine r_skip rfl rfl rfl ?_ | refine .done ?_ | refine r_seq (T := TT) ?_ | refine r_region (T := TT) rfl ?_ | refine r_block (T := TT) ?_ | refine r_then (T := TT) rfl ?_ | refine r_else (T := TT) rfl ?_)
            rw [show plX false xs false ys = false by unfold plX; rw [decide_eq_false l1]; rfl] at hR
            exact hR _ (weak ⟨rfl, rfl, trivial⟩ ⟨rfl, trivial⟩ rfl)
        · repeat (first | refine r_op rfl rfl rfl rfl ?_ | refine r_skip rfl rfl rfl ?_ | refine .done ?_ | refine r_seq (T := TT) ?_ | refine r_region (T := TT) rfl ?_ | refine r_block (T := TT) ?_ | refine r_then (T := TT) rfl ?_ | refine r_else (T := TT) rfl ?_)
          exact hR _ (weak ⟨rfl, rfl, trivial⟩ ⟨rfl, trivial⟩ rfl)
      · repeat (first | refine r_op rfl rfl rfl rfl ?_ | refine r_skip rfl rfl rfl ?_ | refine .done ?_ | refine r_seq (T := TT) ?_ | refine r_region (T := TT) rfl ?_ | refine r_block (T := TT) ?_ | refine r_then (T := TT) rfl ?_ | refine r_else (T := TT) rfl ?_)
        exact hR _ (weak ⟨rfl, rfl, trivial⟩ ⟨rfl, trivial⟩ rfl)
  have fin : ∀ c : Bool, (c = true → ShpX (.mk op na xs nb ys nm args)) → (op = 1 → c = (d && (decide (nm = []) || m) && decide (args.length = 0))) →
      (op = 2 → c = (plX na xs nb ys && m && decide (args.length = 0))) →
      (op = 3 → c = (plX na xs nb ys && decide (nm = []) && decide (args.length = 1))) →
      (op = 4 ∨ op = 5 ∨ op = 6 ∨ op = 7 → c = (plX na xs nb ys && decide (nm = []) && decide (args.length = 2))) →
      (op ≠ 1 → op ≠ 2 → op ≠ 3 → op ≠ 4 → op ≠ 5 → op ≠ 6 → op ≠ 7 → c = false) → ∃ b, CallOK Tryz.prog 83 [dR (.mk op na xs nb ys nm args)] (.one (dB b)) ∧ (b = true → ShpX (.mk op na xs nb ys nm args)) :=
    fun c hc a1 a2 a3 a4 a0 => ⟨c, main c a1 a2 a3 a4 a0, hc⟩
  by_cases o1 : op = 1
  · exact fin (d && (decide (nm = []) || m) && decide (args.length = 0)) (fun h => by
      simp only [Bool.and_eq_true, decide_eq_true_eq] at h
      exact .inl ⟨o1, List.eq_nil_of_length_eq_zero h.2, hdq h.1.1⟩) (fun _ => rfl) (fun h => by omega) (fun h => by omega) (fun h => by omega) (fun h => by omega)
  by_cases o2 : op = 2
  · exact fin (plX na xs nb ys && m && decide (args.length = 0)) (fun h => by
      simp only [Bool.and_eq_true, decide_eq_true_eq] at h
      exact .inr ⟨plX_eq h.1.1, .inl ⟨o2, List.eq_nil_of_length_eq_zero h.2⟩⟩) (fun h => by omega) (fun _ => rfl) (fun h => by omega) (fun h => by omega) (fun h => by omega)
  by_cases o3 : op = 3
  · exact fin (plX na xs nb ys && decide (nm = []) && decide (args.length = 1)) (fun h => by
      simp only [Bool.and_eq_true, decide_eq_true_eq] at h
      exact .inr ⟨plX_eq h.1.1, .inr (.inl ⟨o3, h.1.2, h.2⟩)⟩) (fun h => by omega) (fun h => by omega) (fun _ => rfl) (fun h => by omega) (fun _ _ h => absurd o3 h)
  by_cases o4 : op = 4 ∨ op = 5 ∨ op = 6 ∨ op = 7
  · exact fin (plX na xs nb ys && decide (nm = []) && decide (args.length = 2)) (fun h => by
      simp only [Bool.and_eq_true, decide_eq_true_eq] at h
      exact .inr ⟨plX_eq h.1.1, .inr (.inr ⟨o4, h.1.2, h.2⟩)⟩) (fun h => by omega) (fun h => by omega) (fun h => by omega) (fun _ => rfl) (fun _ _ _ => by omega)
  · exact fin false (fun h => by cases h) (fun h => by omega) (fun h => by omega) (fun h => by omega) (fun h => by omega) (fun _ _ _ _ _ _ _ => rfl)
end Go.Proofs.YtmpadildchphgaaGreatDoor
namespace Go.Proofs.YtmpadildchphgaaGreatDoor
open Go.RowKit
set_option maxHeartbeats 1000000 in
theorem ok_Formed : ∀ (x : Rx), WdX x → ltX x = true → ∃ b, CallOK Tryz.prog 54 [dR x] (.one (dB b)) ∧ (b = true → ∃ e, x = rx e ∧ okE e) := by
  refine rx_ind fun op na xs nb ys nm args ih hx hlt => ?_
  obtain ⟨_, _, hw, hw', _, hlen, hargs⟩ := hx
  rw [ltX, Bool.and_eq_true, Bool.and_eq_true, Bool.and_eq_true, decide_eq_true_eq, decide_eq_true_eq] at hlt
  obtain ⟨hla, ⟨l1, l2⟩, _⟩ := hlt
  obtain ⟨s0, hsh, hS⟩ := ok_shape (op := op) (na := na) (xs := xs) (nb := nb) (ys := ys) (nm := nm) (args := args) hw hw' l1 l2
  have hsh : CallOK Tryz.prog 83 [.agg (cell7 op na xs nb ys nm args.length (aRs args))] (.one (dB s0)) := hsh
  cases s0 with
  | false =>
    refine ⟨false, ?_, fun h => by cases h⟩
    show CallOK Tryz.prog _ [.agg (cell7 op na xs nb ys nm args.length (aRs args))] _
    refine callOK_of TT_ok mixT Tryz.func54 rfl rfl (Nat.le_of_ble_eq_true rfl) ?_
    repeat (first | refine r_op rfl rfl rfl rfl ?_ | refine r_skip rfl rfl rfl ?_ | refine .done ?_ | refine r_seq (T := TT) ?_ | refine r_region (T := TT) rfl ?_ | refine r_block (T := TT) ?_ | refine r_then (T := TT) rfl ?_ | refine r_else (T := TT) rfl ?_)
    refine r_call (hsh) rfl rfl rfl rfl rfl rfl rfl ?_
    repeat (first | refine r_op rfl rfl rfl rfl ?_ | refine r_skip rfl rfl rfl ?_ | refine .done ?_ | refine r_seq (T := TT) ?_ | refine r_region (T := TT) rfl ?_ | refine r_block (T := TT) ?_ | refine r_then (T := TT) rfl ?_ | refine r_else (T := TT) rfl ?_)
    exact r_fin (T := TT) rfl rfl
  | true =>
    have hex : ∀ y : Rx, ∃ b, y ∈ args → CallOK Tryz.prog 54 [dR y] (.one (dB b)) ∧ (b = true → ∃ e, y = rx e ∧ okE e) := fun y => by
      by_cases hy : y ∈ args
      · obtain ⟨b, h⟩ := ih y hy (hargs y hy) (ltXs_mem hla y hy)
        exact ⟨b, fun _ => h⟩
      · exact ⟨false, fun h => absurd h hy⟩
    obtain ⟨f, hf⟩ := Classical.axiomOfChoice hex
    refine ⟨args.all f, ?_, fun h => ?_⟩
    · show CallOK Tryz.prog _ [.agg (cell7 op na xs nb ys nm args.length (aRs args))] _
      refine callOK_of TT_ok mixT Tryz.func54 rfl rfl (Nat.le_of_ble_eq_true rfl) ?_
      repeat (first | refine r_op rfl rfl rfl rfl ?_ | refine r_skip rfl rfl rfl ?_ | refine .done ?_ | refine r_seq (T := TT) ?_ | refine r_region (T := TT) rfl ?_ | refine r_block (T := TT) ?_ | refine r_then (T := TT) rfl ?_ | refine r_else (T := TT) rfl ?_)
      refine r_call (hsh) rfl rfl rfl rfl rfl rfl rfl ?_
      repeat (first | refine r_op rfl rfl rfl rfl ?_ | refine r_skip rfl rfl rfl ?_ | refine .done ?_ | refine r_seq (T := TT) ?_ | refine r_region (T := TT) rfl ?_ | refine r_block (T := TT) ?_ | refine r_then (T := TT) rfl ?_ | refine r_else (T := TT) rfl ?_)
      refine r_loop Nat (fun i => i ≤ args.length ∧ ∀ (q : Nat) y, q < i → args[q]? = some y → f y = true) (fun i => ⟨[(1, .box 0 0), (2, .d (dB false)), (3, .d (dN .i64 i))], [(0, some (cell7 op na xs nb ys nm args.length (aRs args)))]⟩) (fun i => args.length - i) 0 ⟨Nat.zero_le _, fun q y h => absurd h (Nat.not_lt_zero _)⟩
        (weak ⟨rfl, rfl, rfl, trivial⟩ ⟨rfl, trivial⟩ rfl) ?_
      rintro i ⟨hi, hq⟩
      repeat refine r_seq (T := TT) ?_
      refine r_region (T := TT) rfl ?_
      iterate 4 (first | refine r_op rfl rfl rfl rfl ?_ | refine r_skip rfl rfl rfl ?_)
      by_cases hlt : i < args.length
      · refine r_eq (v' := .bool true) rfl rfl rfl rfl ?_ ?_
        · exact congrArg Value.bool (decide_eq_true (by omega))
        obtain ⟨o1, na1, xs1, nb1, ys1, nm1, n1, cs1, hA⟩ := aR_form args[i]
        have hx : args[i]? = some args[i] := by simp [hlt]
        have hat : ∀ (j : Nat) (a : AV), (cell7 o1 na1 xs1 nb1 ys1 nm1 n1 cs1)[j]? = some a → (aRs args)[i * 7 + j]? = some a := fun j a h => aRs_at args i args[i] hx j a (by rw [hA]; exact h)
        have c := (hf args[i] (List.getElem_mem hlt)).1
        rw [show dR args[i] = .agg (cell7 o1 na1 xs1 nb1 ys1 nm1 n1 cs1) from congrArg DV.agg hA] at c
        repeat (first | refine r_op rfl rfl rfl rfl ?_ | refine r_skip rfl rfl rfl ?_ | refine .done ?_ | refine r_seq (T := TT) ?_ | refine r_region (T := TT) rfl ?_ | refine r_block (T := TT) ?_ | refine r_then (T := TT) rfl ?_ | refine r_else (T := TT) rfl ?_)
        refine r_idx (i := i) (cs' := cell7 o1 na1 xs1 nb1 ys1 nm1 n1 cs1) hlt hat (Nat.zero_lt_succ 6) rfl rfl rfl rfl rfl rfl rfl rfl ?_
        iterate 1 (first | refine r_op rfl rfl rfl rfl ?_ | refine r_skip rfl rfl rfl ?_)
        cases hb : f args[i]
        · rw [hb] at c
          refine r_call (c) rfl rfl rfl rfl rfl rfl rfl ?_
          repeat (first | refine r_op rfl rfl rfl rfl ?_ | refine r_skip rfl rfl rfl ?_ | refine .done ?_ | refine r_seq (T := TT) ?_ | refine r_region (T := TT) rfl ?_ | refine r_block (T := TT) ?_ | refine r_then (T := TT) rfl ?_ | refine r_else (T := TT) rfl ?_)
          rw [show args.all f = false by
            cases h : args.all f
            · rfl
            · rw [List.all_eq_true.1 h _ (List.getElem_mem hlt)] at hb; cases hb]
          exact r_fin (T := TT) rfl rfl
        · rw [hb] at c
          refine r_call (c) rfl rfl rfl rfl rfl rfl rfl ?_
          repeat (first | refine r_op rfl rfl rfl rfl ?_ | refine r_skip rfl rfl rfl ?_ | refine .done ?_ | refine r_seq (T := TT) ?_ | refine r_region (T := TT) rfl ?_ | refine r_block (T := TT) ?_ | refine r_then (T := TT) rfl ?_ | refine r_else (T := TT) rfl ?_)
          exact ⟨i + 1, ⟨hlt, fun q y h1 h2 => by
            by_cases e : q = i
            · subst e; rw [hx] at h2; cases h2; exact hb
            · exact hq q y (by omega) h2⟩, by omega, weak ⟨rfl, rfl, tv_i64 (by omega) (by omega), trivial⟩ ⟨rfl, trivial⟩ rfl⟩
      · refine r_eq (v' := .bool false) rfl rfl rfl rfl ?_ ?_
        · exact congrArg Value.bool (decide_eq_false (by omega))
        repeat (first | refine r_op rfl rfl rfl rfl ?_ | refine r_skip rfl rfl rfl ?_ | refine .done ?_ | refine r_seq (T := TT) ?_ | refine r_region (T := TT) rfl ?_ | refine r_block (T := TT) ?_ | refine r_then (T := TT) rfl ?_ | refine r_else (T := TT) rfl ?_)
        rw [show args.all f = true by
          rw [List.all_eq_true]
          intro y hy
          obtain ⟨q, h⟩ := List.getElem?_of_mem hy
          exact hq q y (by have := (List.getElem?_eq_some_iff.1 h).1; omega) h]
        exact r_fin (T := TT) rfl rfl
    · have hall : ∀ y ∈ args, ∃ e, y = rx e ∧ okE e := fun y hy => (hf y hy).2 (List.all_eq_true.1 h y hy)
      rcases hS rfl with ⟨rfl, rfl, q, e, sq, e1, e2⟩ | ⟨⟨rfl, rfl, rfl, rfl⟩, h3⟩
      · have e3 : na = decide (q.num < 0) := by
          have := congrArg (fun l : List AV => l[0]?) e
          injection this with this
          injection this with this
          injection this
        have e4 : nb = decide ((q.den : Int) < 0) := by
          have := congrArg (fun l : List AV => l[2]?) e
          injection this with this
          injection this with this
          injection this
        subst e3 e4 e1 e2
        exact ⟨.num q nm, rfl, sq⟩
      · rcases h3 with ⟨rfl, rfl⟩ | ⟨rfl, rfl, hl⟩ | ⟨ho, rfl, hl⟩
        · exact ⟨.nam nm, rfl, trivial⟩
        · match args, hl, hall with
          | [a], _, hall =>
            obtain ⟨ea, rfl, oa⟩ := hall a (by simp)
            exact ⟨.neg ea, rfl, oa⟩
        · match args, hl, hall with
          | [a, b], _, hall =>
            obtain ⟨ea, rfl, oa⟩ := hall a (by simp)
            obtain ⟨eb, rfl, ob⟩ := hall b (by simp)
            rcases ho with rfl | rfl | rfl | rfl
            · exact ⟨.bin .add ea eb, rfl, oa, ob⟩
            · exact ⟨.bin .sub ea eb, rfl, oa, ob⟩
            · exact ⟨.bin .mul ea eb, rfl, oa, ob⟩
            · exact ⟨.bin .div ea eb, rfl, oa, ob⟩
theorem ok_r22_Valid (x : Rx) (hx : WdX x) (hl : ltX x = true) (hs : szX x ≤ 1000000) : ∃ v : Int, CallOK Tryz.prog 21 [dR x] (.one (dN .i64 v)) ∧ (v = 0 → ∃ e, x = rx e ∧ okE e ∧ dpX x ≤ 40) := by
  obtain ⟨b, c1, h1⟩ := ok_Formed x hx hl
  have c2 := ok_Depth x hx hs
  obtain ⟨o1, na1, xs1, nb1, ys1, nm1, n1, cs1, hA⟩ := aR_form x
  rw [show dR x = .agg (cell7 o1 na1 xs1 nb1 ys1 nm1 n1 cs1) from congrArg DV.agg hA] at c1 c2 ⊢
  cases b with
  | false =>
    refine ⟨1, ?_, fun h => by cases h⟩
    refine callOK_of TT_ok mixT Tryz.func21 rfl rfl (Nat.le_of_ble_eq_true rfl) ?_
    repeat (first | refine r_op rfl rfl rfl rfl ?_ | refine r_skip rfl rfl rfl ?_ | refine .done ?_ | refine r_seq (T := TT) ?_ | refine r_region (T := TT) rfl ?_ | refine r_block (T := TT) ?_ | refine r_then (T := TT) rfl ?_ | refine r_else (T := TT) rfl ?_)
    refine r_call (c1) rfl rfl rfl rfl rfl rfl rfl ?_
    repeat (first | refine r_op rfl rfl rfl rfl ?_ | refine r_skip rfl rfl rfl ?_ | refine .done ?_ | refine r_seq (T := TT) ?_ | refine r_region (T := TT) rfl ?_ | refine r_block (T := TT) ?_ | refine r_then (T := TT) rfl ?_ | refine r_else (T := TT) rfl ?_)
    exact r_fin (T := TT) rfl rfl
  | true =>
    obtain ⟨e, e1, e2⟩ := h1 rfl
    by_cases hd : dpX x ≤ 40
    · refine ⟨0, ?_, fun _ => ⟨e, e1, e2, hd⟩⟩
      refine callOK_of TT_ok mixT Tryz.func21 rfl rfl (Nat.le_of_ble_eq_true rfl) ?_
      repeat (first | refine r_op rfl rfl rfl rfl ?_ | refine r_skip rfl rfl rfl ?_ | refine .done ?_ | refine r_seq (T := TT) ?_ | refine r_region (T := TT) rfl ?_ | refine r_block (T := TT) ?_ | refine r_then (T := TT) rfl ?_ | refine r_else (T := TT) rfl ?_)
      refine r_call (c1) rfl rfl rfl rfl rfl rfl rfl ?_
      repeat (first | refine r_op rfl rfl rfl rfl ?_ | refine r_skip rfl rfl rfl ?_ | refine .done ?_ | refine r_seq (T := TT) ?_ | refine r_region (T := TT) rfl ?_ | refine r_block (T := TT) ?_ | refine r_then (T := TT) rfl ?_ | refine r_else (T := TT) rfl ?_)
      refine r_call (c2) rfl rfl rfl rfl rfl rfl rfl ?_
      refine r_eq (v' := .bool false) rfl rfl rfl rfl ?_ ?_
      · exact congrArg Value.bool (decide_eq_false (by omega))
      repeat (first | refine r_op rfl rfl rfl rfl ?_ | refine r_skip rfl rfl rfl ?_ | refine .done ?_ | refine r_seq (T := TT) ?_ | refine r_region (T := TT) rfl ?_ | refine r_block (T := TT) ?_ | refine r_then (T := TT) rfl ?_ | refine r_else (T := TT) rfl ?_)
      exact r_fin (T := TT) rfl rfl
    · refine ⟨3, ?_, fun h => by cases h⟩
      refine callOK_of TT_ok mixT Tryz.func21 rfl rfl (Nat.le_of_ble_eq_true rfl) ?_
      repeat (first | refine r_op rfl rfl rfl rfl ?_ | refine r_skip rfl rfl rfl ?_ | refine .done ?_ | refine r_seq (T := TT) ?_ | refine r_region (T := TT) rfl ?_ | refine r_block (T := TT) ?_ | refine r_then (T := TT) rfl ?_ | refine r_else (T := TT) rfl ?_)
      refine r_call (c1) rfl rfl rfl rfl rfl rfl rfl ?_
      repeat (first | refine r_op rfl rfl rfl rfl ?_ | refine r_skip rfl rfl rfl ?_ | refine .done ?_ | refine r_seq (T := TT) ?_ | refine r_region (T := TT) rfl ?_ | refine r_block (T := TT) ?_ | refine r_then (T := TT) rfl ?_ | refine r_else (T := TT) rfl ?_)
      refine r_call (c2) rfl rfl rfl rfl rfl rfl rfl ?_
      refine r_eq (v' := .bool true) rfl rfl rfl rfl ?_ ?_
      · exact congrArg Value.bool (decide_eq_true (by omega))
      repeat (first | refine r_op rfl rfl rfl rfl ?_ | refine r_skip rfl rfl rfl ?_ | refine .done ?_ | refine r_seq (T := TT) ?_ | refine r_region (T := TT) rfl ?_ | refine r_block (T := TT) ?_ | refine r_then (T := TT) rfl ?_ | refine r_else (T := TT) rfl ?_)
      exact r_fin (T := TT) rfl rfl
theorem wt_sz : ∀ e : Ex, wtE e ≤ 10 * szX (rx e)
  | .num _ _ => by simp [rx, szX, szXs, wtE]
  | .nam _ => by simp [rx, szX, szXs, wtE]
  | .neg a => by
    have := wt_sz a
    simp only [rx, szX, szXs, wtE]
    omega
  | .bin k a b => by
    have := wt_sz a
    have := wt_sz b
    simp only [rx, szX, szXs, wtE]
    omega
abbrev Rq := Bool × List Nat × Bool × List Nat × Int
def aRq (v : Rq) : List AV := aI2 v.1 v.2.1 v.2.2.1 v.2.2.2.1 ++ [.val (.int .i64 v.2.2.2.2)]
def aRqs : List Rq → List AV
  | [] => []
  | v :: r => aRq v ++ aRqs r
def aNs (l : List (List UInt8)) : List AV := l.map fun x => AV.val (vL x)
def dEnv (ns : List (List UInt8)) (vs : List Rq) : DV := .agg [.sl ns.length (aNs ns), .sl vs.length (aRqs vs)]
def WdQ (v : Rq) : Prop := Wd v.2.1 ∧ Wd v.2.2.2.1
theorem ns_at {l : List (List UInt8)} {i : Nat} {x : List UInt8} (h : l[i]? = some x) : ∀ (j : Nat) (a : AV), [AV.val (vL x)][j]? = some a → (aNs l)[i * 1 + j]? = some a := by
  intro j a hj
  match j, hj with
  | 0, hj => rw [Nat.mul_one, Nat.add_zero, aNs, List.getElem?_map, h]; exact hj
theorem vs_at : ∀ {l : List Rq} {i : Nat} {x : Rq}, l[i]? = some x → ∀ (j : Nat) (a : AV), (aRq x)[j]? = some a → (aRqs l)[i * 5 + j]? = some a
  | [], i, x, h, _, _, _ => by simp at h
  | y :: l, 0, x, h, j, a, ha => by
    simp at h
    subst h
    simp only [aRqs, Nat.zero_mul, Nat.zero_add]
    rw [List.getElem?_append_left (List.getElem?_eq_some_iff.1 ha).1]
    exact ha
  | y :: l, i + 1, x, h, j, a, ha => by
    simp only [aRqs]
    have h5 : (aRq y).length = 5 := rfl
    rw [List.getElem?_append_right (by rw [h5, Nat.add_mul]; omega), h5, show (i + 1) * 5 + j - 5 = i * 5 + j by rw [Nat.add_mul]; omega]
    exact vs_at (l := l) (by simpa using h) j a ha
def fewR (v : Rq) : Bool := fewQt v.1 v.2.1 v.2.2.1 v.2.2.2.1 v.2.2.2.2
def GoodR (ns : List (List UInt8)) (vs : List Rq) (i : Nat) : Prop := ∀ v n, vs[i]? = some v → ns[i]? = some n → fewR v = true ∧ ∀ n', 0 < i → ns[i - 1]? = some n' → Op.bytesLess n' n = true
set_option maxHeartbeats 2000000 in
theorem ok_Right {ns : List (List UInt8)} {vs : List Rq} (hw : ∀ v ∈ vs, WdQ v) {b : Bool} (hb : b = true ↔ ns.length = vs.length ∧ ns.length ≤ 12 ∧ ∀ i, GoodR ns vs i) : CallOK Tryz.prog 19 [dEnv ns vs] (.one (dB b)) := by
  show CallOK Tryz.prog _ [.agg [.sl ns.length (aNs ns), .sl vs.length (aRqs vs)]] _
  by_cases hl : ns.length = vs.length
  · by_cases h12 : ns.length ≤ 12
    · refine callOK_of TT_ok mixT Tryz.func19 rfl rfl (Nat.le_of_ble_eq_true rfl) ?_
      repeat refine r_seq (T := TT) ?_
      refine r_region (T := TT) rfl ?_
      repeat (first | refine r_op rfl rfl rfl rfl ?_ | refine r_skip rfl rfl rfl ?_)
      try refine .done ?_
      repeat refine r_seq (T := TT) ?_
      refine r_region (T := TT) rfl ?_
      iterate 6 (first | refine r_op rfl rfl rfl rfl ?_ | refine r_skip rfl rfl rfl ?_)
      refine r_eq (v' := .bool false) rfl rfl rfl rfl ?_ ?_
      · exact congrArg Value.bool ((by simp [hl]))
      iterate 4 (first | refine r_op rfl rfl rfl rfl ?_ | refine r_skip rfl rfl rfl ?_)
      refine r_eq (v' := .bool false) rfl rfl rfl rfl ?_ ?_
      · exact congrArg Value.bool (decide_eq_false (by omega))
      repeat (first | refine r_op rfl rfl rfl rfl ?_ | refine r_skip rfl rfl rfl ?_ | refine .done ?_ | refine r_seq (T := TT) ?_ | refine r_region (T := TT) rfl ?_ | refine r_block (T := TT) ?_ | refine r_then (T := TT) rfl ?_ | refine r_else (T := TT) rfl ?_)
      refine r_loop Nat (fun i => i ≤ ns.length ∧ ∀ q, q < i → GoodR ns vs q) (fun i => ⟨[(1, .box 0 0), (2, .d (dB false)), (3, .d (dN .i64 i))], [(0, some [.sl ns.length (aNs ns), .sl vs.length (aRqs vs)])]⟩) (fun i => ns.length - i) 0 ⟨Nat.zero_le _, fun q h => absurd h (Nat.not_lt_zero _)⟩
        (weak ⟨rfl, rfl, rfl, trivial⟩ ⟨rfl, trivial⟩ rfl) ?_
      rintro i ⟨hi, hq⟩
      repeat refine r_seq (T := TT) ?_
      refine r_region (T := TT) rfl ?_
      iterate 4 (first | refine r_op rfl rfl rfl rfl ?_ | refine r_skip rfl rfl rfl ?_)
      by_cases hlt : i < ns.length
      · have hv : vs[i]? = some vs[i] := by simp
        have hn : ns[i]? = some ns[i] := by simp
        have c : CallOK Tryz.prog 11 [.agg (aRq vs[i]), dN .i64 4] (.one (dB (fewR vs[i]))) := ok_r23_Valid (p := (vs[i]).2.2.2.2) (hw _ (List.getElem_mem (by omega : i < vs.length))).1 (hw _ (List.getElem_mem (by omega : i < vs.length))).2 (rfl : fewQt (vs[i]).1 (vs[i]).2.1 (vs[i]).2.2.1 (vs[i]).2.2.2.1 (vs[i]).2.2.2.2 = fewR vs[i])
        have hgood : fewR vs[i] = true → (∀ n', 0 < i → ns[i - 1]? = some n' → Op.bytesLess n' ns[i] = true) → ∀ q, q < i + 1 → GoodR ns vs q := fun g1 g2 q hqi => by
          by_cases e : q = i
          · subst e
            intro v n h1 h2
            rw [hv] at h1
            rw [hn] at h2
            cases h1
            cases h2
            exact ⟨g1, g2⟩
          · exact hq q (by omega)
        have hbad : ¬ GoodR ns vs i → b = false := fun h => by
          cases b
          · rfl
          · exact absurd ((hb.1 rfl).2.2 i) h
        refine r_eq (v' := .bool true) rfl rfl rfl rfl ?_ ?_
        · exact congrArg Value.bool (decide_eq_true (by omega))
        repeat (first | refine r_op rfl rfl rfl rfl ?_ | refine r_skip rfl rfl rfl ?_ | refine .done ?_ | refine r_seq (T := TT) ?_ | refine r_region (T := TT) rfl ?_ | refine r_block (T := TT) ?_ | refine r_then (T := TT) rfl ?_ | refine r_else (T := TT) rfl ?_)
        refine r_idx (i := i) (cs' := aRq vs[i]) (by omega) (vs_at hv) (Nat.zero_lt_succ 4) rfl rfl rfl rfl rfl rfl rfl rfl ?_
        iterate 1 (first | refine r_op rfl rfl rfl rfl ?_ | refine r_skip rfl rfl rfl ?_)
        cases hf : fewR vs[i]
        · rw [hf] at c
          obtain rfl := hbad (fun h => by rw [(h _ _ hv hn).1] at hf; cases hf)
          refine r_call (c) rfl rfl rfl rfl rfl rfl rfl ?_
          repeat (first | refine r_op rfl rfl rfl rfl ?_ | refine r_skip rfl rfl rfl ?_ | refine .done ?_ | refine r_seq (T := TT) ?_ | refine r_region (T := TT) rfl ?_ | refine r_block (T := TT) ?_ | refine r_then (T := TT) rfl ?_ | refine r_else (T := TT) rfl ?_)
          exact r_fin (T := TT) rfl rfl
        · rw [hf] at c
          refine r_call (c) rfl rfl rfl rfl rfl rfl rfl ?_
          iterate 3 (first | refine r_op rfl rfl rfl rfl ?_ | refine r_skip rfl rfl rfl ?_)
          by_cases h0 : 0 < i
          · refine r_eq (v' := .bool true) rfl rfl rfl rfl ?_ ?_
            · exact congrArg Value.bool (decide_eq_true (by omega))
            have hp : ns[i - 1]? = some (ns[i - 1]'(by omega)) := by simp
            iterate 4 (first | refine r_op rfl rfl rfl rfl ?_ | refine r_skip rfl rfl rfl ?_)
            refine r_eq (v' := .int .i64 ((i - 1 : Nat))) rfl rfl rfl rfl ?_ ?_
            · exact congrArg (Value.int .i64) (by rw [IntWalk.i64_in _ (by omega)]; omega)
            refine r_idx (i := i - 1) (cs' := [.val (vL (ns[i - 1]'(by omega)))]) (by omega) (ns_at hp) (by simp) rfl rfl rfl rfl rfl rfl rfl rfl ?_
            iterate 4 (first | refine r_op rfl rfl rfl rfl ?_ | refine r_skip rfl rfl rfl ?_)
            refine r_idx (i := i) (cs' := [.val (vL ns[i])]) hlt (ns_at hn) (by simp) rfl rfl rfl rfl rfl rfl rfl rfl ?_
            iterate 1 (first | refine r_op rfl rfl rfl rfl ?_ | refine r_skip rfl rfl rfl ?_)
            cases hless : Op.bytesLess (ns[i - 1]'(by omega)) ns[i]
            · obtain rfl := hbad (fun h => by rw [(h _ _ hv hn).2 _ h0 hp] at hless; cases hless)
              refine r_bin rfl rfl rfl rfl rfl rfl rfl (binV_geqS (a := ns[i - 1]'(by omega)) (b := ns[i])) ?_
              rw [hless]
              repeat (first | refine r_op rfl rfl rfl rfl ?_ | refine r_skip rfl rfl rfl ?_ | refine .done ?_ | refine r_seq (T := TT) ?_ | refine r_region (T := TT) rfl ?_ | refine r_block (T := TT) ?_ | refine r_then (T := TT) rfl ?_ | refine r_else (T := TT) rfl ?_)
              exact r_fin (T := TT) rfl rfl
            · refine r_bin rfl rfl rfl rfl rfl rfl rfl (binV_geqS (a := ns[i - 1]'(by omega)) (b := ns[i])) ?_
              rw [hless]
              repeat (first | refine r_op rfl rfl rfl rfl ?_ | refine r_skip rfl rfl rfl ?_ | refine .done ?_ | refine r_seq (T := TT) ?_ | refine r_region (T := TT) rfl ?_ | refine r_block (T := TT) ?_ | refine r_then (T := TT) rfl ?_ | refine r_else (T := TT) rfl ?_)
              exact ⟨i + 1, ⟨hlt, hgood hf fun n' _ h => by rw [hp] at h; cases h; exact hless⟩, by omega, weak ⟨rfl, rfl, tv_i64 (by omega) (by omega), trivial⟩ ⟨rfl, trivial⟩ rfl⟩
          · refine r_eq (v' := .bool false) rfl rfl rfl rfl ?_ ?_
            · exact congrArg Value.bool (decide_eq_false (by omega))
            repeat (first | refine r_op rfl rfl rfl rfl ?_ | refine r_skip rfl rfl rfl ?_ | refine .done ?_ | refine r_seq (T := TT) ?_ | refine r_region (T := TT) rfl ?_ | refine r_block (T := TT) ?_ | refine r_then (T := TT) rfl ?_ | refine r_else (T := TT) rfl ?_)
            exact ⟨i + 1, ⟨hlt, hgood hf fun n' h _ => absurd h h0⟩, by omega, weak ⟨rfl, rfl, tv_i64 (by omega) (by omega), trivial⟩ ⟨rfl, trivial⟩ rfl⟩
      · refine r_eq (v' := .bool false) rfl rfl rfl rfl ?_ ?_
        · exact congrArg Value.bool (decide_eq_false (by omega))
        obtain rfl : b = true := hb.2 ⟨hl, h12, fun q => by
          by_cases hql : q < ns.length
          · exact hq q (by omega)
          · intro v n h1 h2
            rw [List.getElem?_eq_none (by omega)] at h2
            cases h2⟩
        repeat (first | refine r_op rfl rfl rfl rfl ?_ | refine r_skip rfl rfl rfl ?_ | refine .done ?_ | refine r_seq (T := TT) ?_ | refine r_region (T := TT) rfl ?_ | refine r_block (T := TT) ?_ | refine r_then (T := TT) rfl ?_ | refine r_else (T := TT) rfl ?_)
        exact r_fin (T := TT) rfl rfl
    · obtain rfl : b = false := by
        cases b
        · rfl
        · exact absurd (hb.1 rfl).2.1 h12
      refine callOK_of TT_ok mixT Tryz.func19 rfl rfl (Nat.le_of_ble_eq_true rfl) ?_
      repeat refine r_seq (T := TT) ?_
      refine r_region (T := TT) rfl ?_
      repeat (first | refine r_op rfl rfl rfl rfl ?_ | refine r_skip rfl rfl rfl ?_)
      try refine .done ?_
      repeat refine r_seq (T := TT) ?_
      refine r_region (T := TT) rfl ?_
      iterate 6 (first | refine r_op rfl rfl rfl rfl ?_ | refine r_skip rfl rfl rfl ?_)
      refine r_eq (v' := .bool false) rfl rfl rfl rfl ?_ ?_
      · exact congrArg Value.bool ((by simp [hl]))
      iterate 4 (first | refine r_op rfl rfl rfl rfl ?_ | refine r_skip rfl rfl rfl ?_)
      refine r_eq (v' := .bool true) rfl rfl rfl rfl ?_ ?_
      · exact congrArg Value.bool (decide_eq_true (by omega))
      repeat (first | refine r_op rfl rfl rfl rfl ?_ | refine r_skip rfl rfl rfl ?_ | refine .done ?_ | refine r_seq (T := TT) ?_ | refine r_region (T := TT) rfl ?_ | refine r_block (T := TT) ?_ | refine r_then (T := TT) rfl ?_ | refine r_else (T := TT) rfl ?_)
      exact r_fin (T := TT) rfl rfl
  · obtain rfl : b = false := by
      cases b
      · rfl
      · exact absurd (hb.1 rfl).1 hl
    refine callOK_of TT_ok mixT Tryz.func19 rfl rfl (Nat.le_of_ble_eq_true rfl) ?_
    repeat refine r_seq (T := TT) ?_
    refine r_region (T := TT) rfl ?_
    repeat (first | refine r_op rfl rfl rfl rfl ?_ | refine r_skip rfl rfl rfl ?_)
    try refine .done ?_
    repeat refine r_seq (T := TT) ?_
    refine r_region (T := TT) rfl ?_
    iterate 6 (first | refine r_op rfl rfl rfl rfl ?_ | refine r_skip rfl rfl rfl ?_)
    refine r_eq (v' := .bool true) rfl rfl rfl rfl ?_ ?_
    · exact congrArg Value.bool ((by simp; omega))
    repeat (first | refine r_op rfl rfl rfl rfl ?_ | refine r_skip rfl rfl rfl ?_ | refine .done ?_ | refine r_seq (T := TT) ?_ | refine r_region (T := TT) rfl ?_ | refine r_block (T := TT) ?_ | refine r_then (T := TT) rfl ?_ | refine r_else (T := TT) rfl ?_)
    exact r_fin (T := TT) rfl rfl
theorem right_env : ∀ {ns : List (List UInt8)} {vs : List Rq}, (∀ v ∈ vs, WdQ v) → ns.length = vs.length → (∀ i, GoodR ns vs i) → ∃ l : EL, dEnv ns vs = .agg [.sl l.length (l.map fun x => AV.val (vL x.1)), .sl l.length (aVl l)] ∧ l.length = ns.length ∧ Sorted l ∧ ∀ x ∈ l, SzQ 4 x.2.1 ∧ inP x.2.2 = true := by
  intro ns vs hw hl hg
  have key : ∀ (ns : List (List UInt8)) (vs : List Rq), ns.length = vs.length → (∀ v ∈ vs, WdQ v ∧ fewR v = true) → ∃ l : EL, ns = l.map (·.1) ∧ aRqs vs = aVl l ∧ ∀ x ∈ l, SzQ 4 x.2.1 ∧ inP x.2.2 = true := by
    intro ns
    induction ns with
    | nil =>
      intro vs h1 _
      have : vs = [] := List.eq_nil_of_length_eq_zero h1.symm
      subst this
      exact ⟨[], rfl, rfl, fun x h => by cases h⟩
    | cons n ns ih =>
      intro vs h1 h2
      match vs, h1, h2 with
      | v :: vs, h1, h2 =>
        obtain ⟨l, k1, k2, k3⟩ := ih vs (by simpa using h1) (fun v hv => h2 v (by simp [hv]))
        obtain ⟨hv, hf⟩ := h2 v (by simp)
        obtain ⟨q, e, sq, hp⟩ := few_qt hv.1 hv.2 hf
        refine ⟨(n, (q, v.2.2.2.2)) :: l, by simp [k1], ?_, fun x hx => ?_⟩
        · have e : aRq v = aQt q v.2.2.2.2 := by injection e
          rw [aRqs, aVl, k2, e]
        · rcases List.mem_cons.1 hx with rfl | hx
          · exact ⟨sq, hp⟩
          · exact k3 x hx
  obtain ⟨l, k1, k2, k3⟩ := key ns vs hl (fun v hv => ⟨hw v hv, by
    obtain ⟨i, hi⟩ := List.getElem?_of_mem hv
    have h1 := (List.getElem?_eq_some_iff.1 hi).1
    exact (hg i v (ns[i]'(by omega)) hi (by simp)).1⟩)
  have hll : l.length = ns.length := by rw [k1]; simp
  refine ⟨l, ?_, hll, ?_, k3⟩
  · unfold dEnv aNs
    rw [k2, ← hl, ← hll, k1, List.map_map]
    rfl
  ·
    have adj : ∀ i a b, l[i]? = some a → l[i + 1]? = some b → Op.bytesLess a.1 b.1 = true := by
      intro i a b h1 h2
      have e1 : ns[i]? = some a.1 := by rw [k1, List.getElem?_map, h1]; rfl
      have e2 : ns[i + 1]? = some b.1 := by rw [k1, List.getElem?_map, h2]; rfl
      have h3 := (List.getElem?_eq_some_iff.1 e2).1
      exact (hg (i + 1) (vs[i + 1]'(by omega)) b.1 (by simp) e2).2 a.1 (by omega) e1
    intro i j
    induction j with
    | zero => intro a b h; omega
    | succ j ih =>
      intro a b h h1 h2
      by_cases e : i = j
      · subst e
        exact adj i a b h1 h2
      · have h3 := (List.getElem?_eq_some_iff.1 h2).1
        have hm : l[j]? = some (l[j]'(by omega)) := by simp
        exact bl_trans (ih a _ (by omega) h1 hm) (adj j _ b hm h2)
end Go.Proofs.YtmpadildchphgaaGreatDoor
namespace Go.Proofs.YtmpadildchphgaaGreatDoor
open Go.ChangeShapes Go.WideShapes Go.ChangeAt Go.RowKit Go.Joins
def exprL : List TypeId := [38, 26, 24, 4, 22, 92, 3, 9, 36]
theorem exprL_ok : plainB Tryz.prog exprL = true := by kernel_rfl
set_option maxRecDepth 100000 in
theorem open_expr {H : Type} {enc : TypeId × Value → H} {W : World} {r : Reach} {b0 : Nat} {v : Value} {d : DataW H} {p : List MemPlace} (hv : Value.okWide Tryz.prog W r b0 38 v) (h : DataW.Trod enc Tryz.prog W 0 (fun _ => true) true 38 v d p) :
    ∃ x, DV.M (fun _ => False) W (dR x) v ∧ WdX x := by
  obtain ⟨n, cs, h1, h2⟩ := open_struct exprL_ok (by decide) Tryz.underlying38 hv h
  obtain ⟨x, rfl, h3⟩ := sh_expr n cs h2
  exact ⟨x, h1, h3⟩
def envL : List TypeId := [42, 39, 9, 40, 28, 26, 24, 4, 22, 92, 3]
theorem envL_ok : plainB Tryz.prog envL = true := by kernel_rfl
set_option maxRecDepth 100000 in
theorem sh_env {n : Nat} {cs : List AV} (h : Sh Tryz.prog n 42 cs) : ∃ ns vs, cs = [.sl ns.length (aNs ns), .sl vs.length (aRqs vs)] ∧ (∀ v ∈ vs, WdQ v) := by
  cases n with
  | zero => exact h.elim
  | succ n =>
    simp only [Sh, Tryz.underlying42, List.forall_mem_cons, List.not_mem_nil, false_imp_iff, implies_true, and_true] at h
    obtain ⟨hl, h0, h1⟩ := h
    rw [show Tryz.prog.cellsOf 42 = 2 by kernel_rfl] at hl
    rw [show Tryz.prog.cellsOf 39 = 1 by kernel_rfl] at h0
    rw [show Tryz.prog.cellsOf 40 = 1 by kernel_rfl] at h1
    match cs, hl with
    | [c0, c1], _ =>
      have h0 : Sh Tryz.prog n 39 [c0] := h0
      have h1 : Sh Tryz.prog n 40 [c1] := h1
      cases n with
      | zero => exact h0.elim
      | succ n =>
        simp only [Sh, Tryz.underlying39] at h0
        simp only [Sh, Tryz.underlying40] at h1
        obtain ⟨r0, e0, _, hr0⟩ := h0
        obtain ⟨r1, e1, _, hr1⟩ := h1
        have k0 : ∀ rows : List (List AV), (∀ r ∈ rows, Sh Tryz.prog n 9 r ∧ r.length = Tryz.prog.cellsOf 9) → ∃ l : List (List UInt8), rows.length = l.length ∧ rows.flatten = aNs l := by
          intro rows
          induction rows with
          | nil => intro _; exact ⟨[], rfl, rfl⟩
          | cons r rows ihr =>
            intro hr
            obtain ⟨l, k1, k2⟩ := ihr (fun r hm => hr r (by simp [hm]))
            obtain ⟨x, k4, _⟩ := sh_string (hr r (by simp)).1
            exact ⟨x :: l, by simp [k1], by rw [List.flatten_cons, k2, k4]; rfl⟩
        have k1 : ∀ rows : List (List AV), (∀ r ∈ rows, Sh Tryz.prog n 28 r ∧ r.length = Tryz.prog.cellsOf 28) → ∃ l : List Rq, rows.length = l.length ∧ rows.flatten = aRqs l ∧ ∀ x ∈ l, WdQ x := by
          intro rows
          induction rows with
          | nil => intro _; exact ⟨[], rfl, rfl, fun x hx => by cases hx⟩
          | cons r rows ihr =>
            intro hr
            obtain ⟨l, k1, k2, k3⟩ := ihr (fun r hm => hr r (by simp [hm]))
            obtain ⟨na, xs, nb, ys, p, k4, w1, w2, _, _⟩ := sh_qty (hr r (by simp)).1
            refine ⟨(na, xs, nb, ys, p) :: l, by simp [k1], by rw [List.flatten_cons, k2, k4]; rfl, fun y hy => ?_⟩
            rcases List.mem_cons.1 hy with rfl | hy
            · exact ⟨w1, w2⟩
            · exact k3 y hy
        obtain ⟨ns, a1, a2⟩ := k0 r0 hr0
        obtain ⟨vs, b1, b2, b3⟩ := k1 r1 hr1
        refine ⟨ns, vs, ?_, b3⟩
        simp at e0 e1
        rw [e0, e1, a1, a2, b1, b2]
set_option maxRecDepth 100000 in
theorem open_env {H : Type} {enc : TypeId × Value → H} {W : World} {r : Reach} {b0 : Nat} {v : Value} {d : DataW H} {p : List MemPlace} (hv : Value.okWide Tryz.prog W r b0 42 v) (h : DataW.Trod enc Tryz.prog W 0 (fun _ => true) true 42 v d p) :
    ∃ ns vs, DV.M (fun _ => False) W (dEnv ns vs) v ∧ ∀ v ∈ vs, WdQ v := by
  obtain ⟨n, cs, h1, h2⟩ := open_struct envL_ok (by decide) Tryz.underlying42 hv h
  obtain ⟨ns, vs, rfl, h3⟩ := sh_env h2
  exact ⟨ns, vs, h1, h3⟩
end Go.Proofs.YtmpadildchphgaaGreatDoor
