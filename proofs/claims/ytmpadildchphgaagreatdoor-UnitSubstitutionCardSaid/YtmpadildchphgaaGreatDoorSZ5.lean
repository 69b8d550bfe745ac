/- Parts of a proof: contracts of the functions that the laws reach. -/
import Derived.Test.YtmpadildchphgaaGreatDoorSZ4
namespace Go.Proofs.YtmpadildchphgaaGreatDoor
open Go.RowKit
section
variable {P : Program} {T : TypeId → Option Ty} {n : Nat} {ops : Array Oper} {id : Nat} {draw : Bool} {K : AS → Prop} {s : AS} {k : Nat} {o : Oper} {os : List Oper} {fps : List FP}
theorem r_max {x y : Operand} {ts : Array TypeId} {a b m : Int} (hm : max a b = m) (h1 : gd ops s o = some true) (h2 : o.op = .call ⟨.builtin .max, #[x, y], ts⟩) (h7 : s.ev x = .d (dN .i64 a)) (h8 : s.ev y = .d (dN .i64 b))
    (h3 : dstOK n o.dst = true) (h4 : chk draw ops (fpOf ops o ⟨.d (dN .i64 m), none⟩ []) k fps = true) (h : AOps P T n ops id draw K (k + 1) os (s.eff o.dst ⟨.d (dN .i64 m), none⟩) (fpOf ops o ⟨.d (dN .i64 m), none⟩ [] :: fps)) : AOps P T n ops id draw K k (o :: os) s fps := by
  subst hm
  refine .run h1 (.gen fun s2 ht _ => ?_) h3 h4 h
  have hx := (rt_op ht (x := x) (by simp [h2, Op.operands, Call.operands])).trans h7
  have hy := (rt_op ht (x := y) (by simp [h2, Op.operands, Call.operands])).trans h8
  refine sound_val fun n S0 w0 g a' w hM => ⟨.int .i64 (max a b), w, ?_, Below.refl _ _, AV.M.val rfl⟩
  have hm : (Builtin.max2 (.int .i64 a) (.int .i64 b)).run P w = .ok (.int .i64 (max a b)) w := by
    have e : max a b = if b > a then b else a := by split <;> omega
    rw [e]
    rfl
  simp [execOp, h2, resolve, invoke, builtin, Builtin.max_, ev_val hM hx, ev_val hM hy, Sem.run_bind, hm]
end
theorem ok_letter (c : UInt8) : ∃ b, CallOK Tryz.prog 159 [dN .u8 c.toNat] (.one (dB b)) := by
  by_cases h1 : 97 ≤ c.toNat
  · by_cases h2 : c.toNat ≤ 122
    · refine ⟨true, ?_⟩
      refine callOK_of TT_ok mixT Tryz.func159 rfl rfl (Nat.le_of_ble_eq_true rfl) ?_
      repeat refine r_seq (T := TT) ?_
      refine r_region (T := TT) rfl ?_
      repeat (first | refine r_op rfl rfl rfl rfl ?_ | refine r_skip rfl rfl rfl ?_)
      try refine .done ?_
      repeat refine r_seq (T := TT) ?_
      refine r_region (T := TT) rfl ?_
      iterate 1 (first | refine r_op rfl rfl rfl rfl ?_ | refine r_skip rfl rfl rfl ?_)
      refine r_eq (v' := .bool true) rfl rfl rfl rfl ?_ ?_
      · exact congrArg Value.bool (decide_eq_true (by omega))
      iterate 2 (first | refine r_op rfl rfl rfl rfl ?_ | refine r_skip rfl rfl rfl ?_)
      refine r_eq (v' := .bool true) rfl rfl rfl rfl ?_ ?_
      · exact congrArg Value.bool (decide_eq_true (by omega))
      repeat (first | refine r_op rfl rfl rfl rfl ?_ | refine r_skip rfl rfl rfl ?_ | refine .done ?_ | refine r_seq (T := TT) ?_ | refine r_region (T := TT) rfl ?_ | refine r_block (T := TT) ?_ | refine r_then (T := TT) rfl ?_ | refine r_else (T := TT) rfl ?_)
      exact r_fin (T := TT) rfl rfl
    · refine ⟨false, ?_⟩
      refine callOK_of TT_ok mixT Tryz.func159 rfl rfl (Nat.le_of_ble_eq_true rfl) ?_
      repeat refine r_seq (T := TT) ?_
      refine r_region (T := TT) rfl ?_
      repeat (first | refine r_op rfl rfl rfl rfl ?_ | refine r_skip rfl rfl rfl ?_)
      try refine .done ?_
      repeat refine r_seq (T := TT) ?_
      refine r_region (T := TT) rfl ?_
      iterate 1 (first | refine r_op rfl rfl rfl rfl ?_ | refine r_skip rfl rfl rfl ?_)
      refine r_eq (v' := .bool true) rfl rfl rfl rfl ?_ ?_
      · exact congrArg Value.bool (decide_eq_true (by omega))
      iterate 2 (first | refine r_op rfl rfl rfl rfl ?_ | refine r_skip rfl rfl rfl ?_)
      refine r_eq (v' := .bool false) rfl rfl rfl rfl ?_ ?_
      · exact congrArg Value.bool (decide_eq_false (by omega))
      iterate 3 (first | refine r_op rfl rfl rfl rfl ?_ | refine r_skip rfl rfl rfl ?_)
      refine r_eq (v' := .bool true) rfl rfl rfl rfl ?_ ?_
      · exact congrArg Value.bool (decide_eq_true (by omega))
      iterate 2 (first | refine r_op rfl rfl rfl rfl ?_ | refine r_skip rfl rfl rfl ?_)
      refine r_eq (v' := .bool false) rfl rfl rfl rfl ?_ ?_
      · exact congrArg Value.bool (decide_eq_false (by omega))
      repeat (first | refine r_op rfl rfl rfl rfl ?_ | refine r_skip rfl rfl rfl ?_ | refine .done ?_ | refine r_seq (T := TT) ?_ | refine r_region (T := TT) rfl ?_ | refine r_block (T := TT) ?_ | refine r_then (T := TT) rfl ?_ | refine r_else (T := TT) rfl ?_)
      exact r_fin (T := TT) rfl rfl
  · by_cases h2 : 65 ≤ c.toNat
    · by_cases h3 : c.toNat ≤ 90
      · refine ⟨true, ?_⟩
        refine callOK_of TT_ok mixT Tryz.func159 rfl rfl (Nat.le_of_ble_eq_true rfl) ?_
        repeat refine r_seq (T := TT) ?_
        refine r_region (T := TT) rfl ?_
        repeat (first | refine r_op rfl rfl rfl rfl ?_ | refine r_skip rfl rfl rfl ?_)
        try refine .done ?_
        repeat refine r_seq (T := TT) ?_
        refine r_region (T := TT) rfl ?_
        iterate 1 (first | refine r_op rfl rfl rfl rfl ?_ | refine r_skip rfl rfl rfl ?_)
        refine r_eq (v' := .bool false) rfl rfl rfl rfl ?_ ?_
        · exact congrArg Value.bool (decide_eq_false (by omega))
        iterate 6 (first | refine r_op rfl rfl rfl rfl ?_ | refine r_skip rfl rfl rfl ?_)
        refine r_eq (v' := .bool true) rfl rfl rfl rfl ?_ ?_
        · exact congrArg Value.bool (decide_eq_true (by omega))
        iterate 2 (first | refine r_op rfl rfl rfl rfl ?_ | refine r_skip rfl rfl rfl ?_)
        refine r_eq (v' := .bool true) rfl rfl rfl rfl ?_ ?_
        · exact congrArg Value.bool (decide_eq_true (by omega))
        repeat (first | refine r_op rfl rfl rfl rfl ?_ | refine r_skip rfl rfl rfl ?_ | refine .done ?_ | refine r_seq (T := TT) ?_ | refine r_region (T := TT) rfl ?_ | refine r_block (T := TT) ?_ | refine r_then (T := TT) rfl ?_ | refine r_else (T := TT) rfl ?_)
        exact r_fin (T := TT) rfl rfl
      · refine ⟨false, ?_⟩
        refine callOK_of TT_ok mixT Tryz.func159 rfl rfl (Nat.le_of_ble_eq_true rfl) ?_
        repeat refine r_seq (T := TT) ?_
        refine r_region (T := TT) rfl ?_
        repeat (first | refine r_op rfl rfl rfl rfl ?_ | refine r_skip rfl rfl rfl ?_)
        try refine .done ?_
        repeat refine r_seq (T := TT) ?_
        refine r_region (T := TT) rfl ?_
        iterate 1 (first | refine r_op rfl rfl rfl rfl ?_ | refine r_skip rfl rfl rfl ?_)
        refine r_eq (v' := .bool false) rfl rfl rfl rfl ?_ ?_
        · exact congrArg Value.bool (decide_eq_false (by omega))
        iterate 6 (first | refine r_op rfl rfl rfl rfl ?_ | refine r_skip rfl rfl rfl ?_)
        refine r_eq (v' := .bool true) rfl rfl rfl rfl ?_ ?_
        · exact congrArg Value.bool (decide_eq_true (by omega))
        iterate 2 (first | refine r_op rfl rfl rfl rfl ?_ | refine r_skip rfl rfl rfl ?_)
        refine r_eq (v' := .bool false) rfl rfl rfl rfl ?_ ?_
        · exact congrArg Value.bool (decide_eq_false (by omega))
        repeat (first | refine r_op rfl rfl rfl rfl ?_ | refine r_skip rfl rfl rfl ?_ | refine .done ?_ | refine r_seq (T := TT) ?_ | refine r_region (T := TT) rfl ?_ | refine r_block (T := TT) ?_ | refine r_then (T := TT) rfl ?_ | refine r_else (T := TT) rfl ?_)
        exact r_fin (T := TT) rfl rfl
    · refine ⟨false, ?_⟩
      refine callOK_of TT_ok mixT Tryz.func159 rfl rfl (Nat.le_of_ble_eq_true rfl) ?_
      repeat refine r_seq (T := TT) ?_
      refine r_region (T := TT) rfl ?_
      repeat (first | refine r_op rfl rfl rfl rfl ?_ | refine r_skip rfl rfl rfl ?_)
      try refine .done ?_
      repeat refine r_seq (T := TT) ?_
      refine r_region (T := TT) rfl ?_
      iterate 1 (first | refine r_op rfl rfl rfl rfl ?_ | refine r_skip rfl rfl rfl ?_)
      refine r_eq (v' := .bool false) rfl rfl rfl rfl ?_ ?_
      · exact congrArg Value.bool (decide_eq_false (by omega))
      iterate 6 (first | refine r_op rfl rfl rfl rfl ?_ | refine r_skip rfl rfl rfl ?_)
      refine r_eq (v' := .bool false) rfl rfl rfl rfl ?_ ?_
      · exact congrArg Value.bool (decide_eq_false (by omega))
      repeat (first | refine r_op rfl rfl rfl rfl ?_ | refine r_skip rfl rfl rfl ?_ | refine .done ?_ | refine r_seq (T := TT) ?_ | refine r_region (T := TT) rfl ?_ | refine r_block (T := TT) ?_ | refine r_then (T := TT) rfl ?_ | refine r_else (T := TT) rfl ?_)
      exact r_fin (T := TT) rfl rfl
theorem ok_digit21 (c : UInt8) : ∃ b, CallOK Tryz.prog 160 [dN .u8 c.toNat] (.one (dB b)) := by
  by_cases h1 : 48 ≤ c.toNat
  · by_cases h2 : c.toNat ≤ 57
    · refine ⟨true, ?_⟩
      refine callOK_of TT_ok mixT Tryz.func160 rfl rfl (Nat.le_of_ble_eq_true rfl) ?_
      repeat refine r_seq (T := TT) ?_
      refine r_region (T := TT) rfl ?_
      repeat (first | refine r_op rfl rfl rfl rfl ?_ | refine r_skip rfl rfl rfl ?_)
      try refine .done ?_
      repeat refine r_seq (T := TT) ?_
      refine r_region (T := TT) rfl ?_
      iterate 1 (first | refine r_op rfl rfl rfl rfl ?_ | refine r_skip rfl rfl rfl ?_)
      refine r_eq (v' := .bool true) rfl rfl rfl rfl ?_ ?_
      · exact congrArg Value.bool (decide_eq_true (by omega))
      iterate 2 (first | refine r_op rfl rfl rfl rfl ?_ | refine r_skip rfl rfl rfl ?_)
      refine r_eq (v' := .bool true) rfl rfl rfl rfl ?_ ?_
      · exact congrArg Value.bool (decide_eq_true (by omega))
      repeat (first | refine r_op rfl rfl rfl rfl ?_ | refine r_skip rfl rfl rfl ?_ | refine .done ?_ | refine r_seq (T := TT) ?_ | refine r_region (T := TT) rfl ?_ | refine r_block (T := TT) ?_ | refine r_then (T := TT) rfl ?_ | refine r_else (T := TT) rfl ?_)
      exact r_fin (T := TT) rfl rfl
    · refine ⟨false, ?_⟩
      refine callOK_of TT_ok mixT Tryz.func160 rfl rfl (Nat.le_of_ble_eq_true rfl) ?_
      repeat refine r_seq (T := TT) ?_
      refine r_region (T := TT) rfl ?_
      repeat (first | refine r_op rfl rfl rfl rfl ?_ | refine r_skip rfl rfl rfl ?_)
      try refine .done ?_
      repeat refine r_seq (T := TT) ?_
      refine r_region (T := TT) rfl ?_
      iterate 1 (first | refine r_op rfl rfl rfl rfl ?_ | refine r_skip rfl rfl rfl ?_)
      refine r_eq (v' := .bool true) rfl rfl rfl rfl ?_ ?_
      · exact congrArg Value.bool (decide_eq_true (by omega))
      iterate 2 (first | refine r_op rfl rfl rfl rfl ?_ | refine r_skip rfl rfl rfl ?_)
      refine r_eq (v' := .bool false) rfl rfl rfl rfl ?_ ?_
      · exact congrArg Value.bool (decide_eq_false (by omega))
      repeat (first | refine r_op rfl rfl rfl rfl ?_ | refine r_skip rfl rfl rfl ?_ | refine .done ?_ | refine r_seq (T := TT) ?_ | refine r_region (T := TT) rfl ?_ | refine r_block (T := TT) ?_ | refine r_then (T := TT) rfl ?_ | refine r_else (T := TT) rfl ?_)
      exact r_fin (T := TT) rfl rfl
  · refine ⟨false, ?_⟩
    refine callOK_of TT_ok mixT Tryz.func160 rfl rfl (Nat.le_of_ble_eq_true rfl) ?_
    repeat refine r_seq (T := TT) ?_
    refine r_region (T := TT) rfl ?_
    repeat (first | refine r_op rfl rfl rfl rfl ?_ | refine r_skip rfl rfl rfl ?_)
    try refine .done ?_
    repeat refine r_seq (T := TT) ?_
    refine r_region (T := TT) rfl ?_
    iterate 1 (first | refine r_op rfl rfl rfl rfl ?_ | refine r_skip rfl rfl rfl ?_)
    refine r_eq (v' := .bool false) rfl rfl rfl rfl ?_ ?_
    · exact congrArg Value.bool (decide_eq_false (by omega))
    repeat (first | refine r_op rfl rfl rfl rfl ?_ | refine r_skip rfl rfl rfl ?_ | refine .done ?_ | refine r_seq (T := TT) ?_ | refine r_region (T := TT) rfl ?_ | refine r_block (T := TT) ?_ | refine r_then (T := TT) rfl ?_ | refine r_else (T := TT) rfl ?_)
    exact r_fin (T := TT) rfl rfl
theorem tw_len {p : UInt8 → Bool} : ∀ {s : List UInt8} {i : Nat}, (∀ (q : Nat) c, q < i → s[q]? = some c → p c = true) → (s[i]? = none ∧ i ≤ s.length ∨ ∃ c, s[i]? = some c ∧ p c = false) → (s.takeWhile p).length = i
  | [], i, _, h => by
    rcases h with ⟨_, h⟩ | ⟨c, h, _⟩
    · simp at h; simp [h]
    · simp at h
  | a :: s, 0, _, h => by
    rcases h with ⟨h, _⟩ | ⟨c, h, k⟩
    · simp at h
    · simp at h; subst h; simp [List.takeWhile, k]
  | a :: s, i + 1, hq, h => by
    have h0 := hq 0 a (by omega) rfl
    simp only [List.takeWhile, h0, List.length_cons]
    rw [tw_len (s := s) (i := i) (fun q c h1 h2 => hq (q + 1) c (by omega) (by simpa using h2)) (by simpa using h)]
set_option maxHeartbeats 2000000 in
theorem ok_word (s : List UInt8) (hl : s.length ≤ 1000000) : ∃ k : Nat, CallOK Tryz.prog 139 [dL s, dN .i64 0] (.one (dN .i64 k)) := by
  have hB := Bs_size s
  obtain ⟨f, hf⟩ := Classical.axiomOfChoice ok_letter
  obtain ⟨g, hg⟩ := Classical.axiomOfChoice ok_digit21
  cases hs : s with
  | nil =>
    refine ⟨0, ?_⟩
    refine callOK_of TT_ok mixT Tryz.func139 rfl rfl (Nat.le_of_ble_eq_true rfl) ?_
    repeat (first | refine r_op rfl rfl rfl rfl ?_ | refine r_skip rfl rfl rfl ?_ | refine .done ?_ | refine r_seq (T := TT) ?_ | refine r_region (T := TT) rfl ?_ | refine r_block (T := TT) ?_ | refine r_then (T := TT) rfl ?_ | refine r_else (T := TT) rfl ?_)
    exact r_fin (T := TT) rfl rfl
  | cons c r =>
    rw [← hs]
    have hp : 0 < s.length := by rw [hs]; simp
    have h0 : s[0]? = some c := by rw [hs]; rfl
    have hc := hf c
    cases hb : f c
    · rw [hb] at hc
      refine ⟨0, ?_⟩
      refine callOK_of TT_ok mixT Tryz.func139 rfl rfl (Nat.le_of_ble_eq_true rfl) ?_
      repeat refine r_seq (T := TT) ?_
      refine r_region (T := TT) rfl ?_
      repeat (first | refine r_op rfl rfl rfl rfl ?_ | refine r_skip rfl rfl rfl ?_)
      try refine .done ?_
      repeat refine r_seq (T := TT) ?_
      refine r_region (T := TT) rfl ?_
      iterate 3 (first | refine r_op rfl rfl rfl rfl ?_ | refine r_skip rfl rfl rfl ?_)
      refine r_eq (v' := .bool false) rfl rfl rfl rfl ?_ ?_
      · exact congrArg Value.bool (decide_eq_false (by omega))
      iterate 3 (first | refine r_op rfl rfl rfl rfl ?_ | refine r_skip rfl rfl rfl ?_)
      refine r_sidx TT_ok (i := 0) (c := c) h0 rfl rfl rfl rfl rfl rfl rfl rfl ?_
      refine r_call (hc) rfl rfl rfl rfl rfl rfl rfl ?_
      repeat (first | refine r_op rfl rfl rfl rfl ?_ | refine r_skip rfl rfl rfl ?_ | refine .done ?_ | refine r_seq (T := TT) ?_ | refine r_region (T := TT) rfl ?_ | refine r_block (T := TT) ?_ | refine r_then (T := TT) rfl ?_ | refine r_else (T := TT) rfl ?_)
      exact r_fin (T := TT) rfl rfl
    · rw [hb] at hc
      refine ⟨(s.takeWhile fun c => f c || g c || decide (c.toNat = 95)).length, ?_⟩
      refine callOK_of TT_ok mixT Tryz.func139 rfl rfl (Nat.le_of_ble_eq_true rfl) ?_
      repeat refine r_seq (T := TT) ?_
      refine r_region (T := TT) rfl ?_
      repeat (first | refine r_op rfl rfl rfl rfl ?_ | refine r_skip rfl rfl rfl ?_)
      try refine .done ?_
      repeat refine r_seq (T := TT) ?_
      refine r_region (T := TT) rfl ?_
      iterate 3 (first | refine r_op rfl rfl rfl rfl ?_ | refine r_skip rfl rfl rfl ?_)
      refine r_eq (v' := .bool false) rfl rfl rfl rfl ?_ ?_
      · exact congrArg Value.bool (decide_eq_false (by omega))
      iterate 3 (first | refine r_op rfl rfl rfl rfl ?_ | refine r_skip rfl rfl rfl ?_)
      refine r_sidx TT_ok (i := 0) (c := c) h0 rfl rfl rfl rfl rfl rfl rfl rfl ?_
      refine r_call (hc) rfl rfl rfl rfl rfl rfl rfl ?_
      repeat (first | refine r_op rfl rfl rfl rfl ?_ | refine r_skip rfl rfl rfl ?_ | refine .done ?_ | refine r_seq (T := TT) ?_ | refine r_region (T := TT) rfl ?_ | refine r_block (T := TT) ?_ | refine r_then (T := TT) rfl ?_ | refine r_else (T := TT) rfl ?_)
      refine r_loop Nat (fun i => i ≤ s.length ∧ ∀ (q : Nat) c, q < i → s[q]? = some c → (f c || g c || decide (c.toNat = 95)) = true) (fun i => ⟨[(0, .d (dL s)), (1, .d (dN .i64 i)), (4, .d (dN .i64 0))], []⟩) (fun i => s.length - i) 0 ⟨Nat.zero_le _, fun q c h => absurd h (Nat.not_lt_zero _)⟩ (weak ⟨rfl, rfl, rfl, trivial⟩ trivial rfl) ?_
      rintro i ⟨hi, hq⟩
      repeat refine r_seq (T := TT) ?_
      refine r_region (T := TT) rfl ?_
      iterate 3 (first | refine r_op rfl rfl rfl rfl ?_ | refine r_skip rfl rfl rfl ?_)
      by_cases hlt : i < s.length
      · have hx : s[i]? = some s[i] := by simp [hlt]
        refine r_eq (v' := .bool true) rfl rfl rfl rfl ?_ ?_
        · exact congrArg Value.bool (decide_eq_true (by omega))
        iterate 3 (first | refine r_op rfl rfl rfl rfl ?_ | refine r_skip rfl rfl rfl ?_)
        refine r_sidx TT_ok (i := i) (c := s[i]) hx rfl rfl rfl rfl rfl rfl rfl rfl ?_
        have hcf := hf s[i]
        have hcg := hg s[i]
        have hnext : (f s[i] || g s[i] || decide (s[i].toNat = 95)) = true → ∀ (q : Nat) c, q < i + 1 → s[q]? = some c → (f c || g c || decide (c.toNat = 95)) = true := fun hv q c h1 h2 => by
          by_cases e : q = i
          · subst e; rw [hx] at h2; cases h2; exact hv
          · exact hq q c (by omega) h2
        cases hbf : f s[i]
        · rw [hbf] at hcf
          refine r_call (hcf) rfl rfl rfl rfl rfl rfl rfl ?_
          iterate 3 (first | refine r_op rfl rfl rfl rfl ?_ | refine r_skip rfl rfl rfl ?_)
          refine r_sidx TT_ok (i := i) (c := s[i]) hx rfl rfl rfl rfl rfl rfl rfl rfl ?_
          cases hbg : g s[i]
          · rw [hbg] at hcg
            refine r_call (hcg) rfl rfl rfl rfl rfl rfl rfl ?_
            iterate 4 (first | refine r_op rfl rfl rfl rfl ?_ | refine r_skip rfl rfl rfl ?_)
            refine r_sidx TT_ok (i := i) (c := s[i]) hx rfl rfl rfl rfl rfl rfl rfl rfl ?_
            by_cases h95 : s[i].toNat = 95
            · refine r_eq (v' := .bool true) rfl rfl rfl rfl ?_ ?_
              · exact congrArg Value.bool (decide_eq_true (by omega))
              repeat (first | refine r_op rfl rfl rfl rfl ?_ | refine r_skip rfl rfl rfl ?_ | refine .done ?_ | refine r_seq (T := TT) ?_ | refine r_region (T := TT) rfl ?_ | refine r_block (T := TT) ?_ | refine r_then (T := TT) rfl ?_ | refine r_else (T := TT) rfl ?_)
              exact ⟨i + 1, ⟨hlt, hnext (by simp [h95])⟩, by omega, weak ⟨rfl, tv_i64 (by omega) (by omega), rfl, trivial⟩ trivial rfl⟩
            · refine r_eq (v' := .bool false) rfl rfl rfl rfl ?_ ?_
              · exact congrArg Value.bool (decide_eq_false (by omega))
              repeat (first | refine r_op rfl rfl rfl rfl ?_ | refine r_skip rfl rfl rfl ?_ | refine .done ?_ | refine r_seq (T := TT) ?_ | refine r_region (T := TT) rfl ?_ | refine r_block (T := TT) ?_ | refine r_then (T := TT) rfl ?_ | refine r_else (T := TT) rfl ?_)
              rw [tw_len hq (.inr ⟨_, hx, by simp [hbf, hbg, h95]⟩)]
              exact r_fin (T := TT) rfl rfl
          · rw [hbg] at hcg
            refine r_call (hcg) rfl rfl rfl rfl rfl rfl rfl ?_
            repeat (first | refine r_op rfl rfl rfl rfl ?_ | refine r_skip rfl rfl rfl ?_ | refine .done ?_ | refine r_seq (T := TT) ?_ | refine r_region (T := TT) rfl ?_ | refine r_block (T := TT) ?_ | refine r_then (T := TT) rfl ?_ | refine r_else (T := TT) rfl ?_)
            exact ⟨i + 1, ⟨hlt, hnext (by simp [hbg])⟩, by omega, weak ⟨rfl, tv_i64 (by omega) (by omega), rfl, trivial⟩ trivial rfl⟩
        · rw [hbf] at hcf
          refine r_call (hcf) rfl rfl rfl rfl rfl rfl rfl ?_
          repeat (first | refine r_op rfl rfl rfl rfl ?_ | refine r_skip rfl rfl rfl ?_ | refine .done ?_ | refine r_seq (T := TT) ?_ | refine r_region (T := TT) rfl ?_ | refine r_block (T := TT) ?_ | refine r_then (T := TT) rfl ?_ | refine r_else (T := TT) rfl ?_)
          exact ⟨i + 1, ⟨hlt, hnext (by simp [hbf])⟩, by omega, weak ⟨rfl, tv_i64 (by omega) (by omega), rfl, trivial⟩ trivial rfl⟩
      · refine r_eq (v' := .bool false) rfl rfl rfl rfl ?_ ?_
        · exact congrArg Value.bool (decide_eq_false (by omega))
        repeat (first | refine r_op rfl rfl rfl rfl ?_ | refine r_skip rfl rfl rfl ?_ | refine .done ?_ | refine r_seq (T := TT) ?_ | refine r_region (T := TT) rfl ?_ | refine r_block (T := TT) ?_ | refine r_then (T := TT) rfl ?_ | refine r_else (T := TT) rfl ?_)
        rw [tw_len hq (.inl ⟨List.getElem?_eq_none (by omega), hi⟩)]
        exact r_fin (T := TT) rfl rfl
set_option maxHeartbeats 2000000 in
theorem ok_IsName (s : List UInt8) : ∃ b, CallOK Tryz.prog 115 [dL s] (.one (dB b)) := by
  have hB := Bs_size s
  by_cases h0 : s = []
  · refine ⟨false, ?_⟩
    refine callOK_of TT_ok mixT Tryz.func115 rfl rfl (Nat.le_of_ble_eq_true rfl) ?_
    repeat refine r_seq (T := TT) ?_
    refine r_region (T := TT) rfl ?_
    repeat (first | refine r_op rfl rfl rfl rfl ?_ | refine r_skip rfl rfl rfl ?_)
    try refine .done ?_
    repeat refine r_seq (T := TT) ?_
    refine r_region (T := TT) rfl ?_
    iterate 1 (first | refine r_op rfl rfl rfl rfl ?_ | refine r_skip rfl rfl rfl ?_)
    refine r_bin rfl rfl rfl rfl rfl rfl rfl (binV_neF (a := s) (b := []) h0) ?_
    repeat (first | refine r_op rfl rfl rfl rfl ?_ | refine r_skip rfl rfl rfl ?_ | refine .done ?_ | refine r_seq (T := TT) ?_ | refine r_region (T := TT) rfl ?_ | refine r_block (T := TT) ?_ | refine r_then (T := TT) rfl ?_ | refine r_else (T := TT) rfl ?_)
    exact r_fin (T := TT) rfl rfl
  · by_cases hl : s.length ≤ 24
    · obtain ⟨k, hk⟩ := ok_word s (by omega)
      by_cases he : k = s.length
      · refine ⟨true, ?_⟩
        refine callOK_of TT_ok mixT Tryz.func115 rfl rfl (Nat.le_of_ble_eq_true rfl) ?_
        repeat refine r_seq (T := TT) ?_
        refine r_region (T := TT) rfl ?_
        repeat (first | refine r_op rfl rfl rfl rfl ?_ | refine r_skip rfl rfl rfl ?_)
        try refine .done ?_
        repeat refine r_seq (T := TT) ?_
        refine r_region (T := TT) rfl ?_
        iterate 1 (first | refine r_op rfl rfl rfl rfl ?_ | refine r_skip rfl rfl rfl ?_)
        refine r_bin rfl rfl rfl rfl rfl rfl rfl (binV_neT (a := s) (b := []) h0) ?_
        iterate 3 (first | refine r_op rfl rfl rfl rfl ?_ | refine r_skip rfl rfl rfl ?_)
        refine r_eq (v' := .bool true) rfl rfl rfl rfl ?_ ?_
        · exact congrArg Value.bool (decide_eq_true (by omega))
        iterate 3 (first | refine r_op rfl rfl rfl rfl ?_ | refine r_skip rfl rfl rfl ?_)
        refine r_call (hk) rfl rfl rfl rfl rfl rfl rfl ?_
        iterate 2 (first | refine r_op rfl rfl rfl rfl ?_ | refine r_skip rfl rfl rfl ?_)
        refine r_eq (v' := .bool true) rfl rfl rfl rfl ?_ ?_
        · exact congrArg Value.bool (decide_eq_true (by omega))
        repeat (first | refine r_op rfl rfl rfl rfl ?_ | refine r_skip rfl rfl rfl ?_ | refine .done ?_ | refine r_seq (T := TT) ?_ | refine r_region (T := TT) rfl ?_ | refine r_block (T := TT) ?_ | refine r_then (T := TT) rfl ?_ | refine r_else (T := TT) rfl ?_)
        exact r_fin (T := TT) rfl rfl
      · refine ⟨false, ?_⟩
        refine callOK_of TT_ok mixT Tryz.func115 rfl rfl (Nat.le_of_ble_eq_true rfl) ?_
        repeat refine r_seq (T := TT) ?_
        refine r_region (T := TT) rfl ?_
        repeat (first | refine r_op rfl rfl rfl rfl ?_ | refine r_skip rfl rfl rfl ?_)
        try refine .done ?_
        repeat refine r_seq (T := TT) ?_
        refine r_region (T := TT) rfl ?_
        iterate 1 (first | refine r_op rfl rfl rfl rfl ?_ | refine r_skip rfl rfl rfl ?_)
        refine r_bin rfl rfl rfl rfl rfl rfl rfl (binV_neT (a := s) (b := []) h0) ?_
        iterate 3 (first | refine r_op rfl rfl rfl rfl ?_ | refine r_skip rfl rfl rfl ?_)
        refine r_eq (v' := .bool true) rfl rfl rfl rfl ?_ ?_
        · exact congrArg Value.bool (decide_eq_true (by omega))
        iterate 3 (first | refine r_op rfl rfl rfl rfl ?_ | refine r_skip rfl rfl rfl ?_)
        refine r_call (hk) rfl rfl rfl rfl rfl rfl rfl ?_
        iterate 2 (first | refine r_op rfl rfl rfl rfl ?_ | refine r_skip rfl rfl rfl ?_)
        refine r_eq (v' := .bool false) rfl rfl rfl rfl ?_ ?_
        · exact congrArg Value.bool (decide_eq_false (by omega))
        repeat (first | refine r_op rfl rfl rfl rfl ?_ | refine r_skip rfl rfl rfl ?_ | refine .done ?_ | refine r_seq (T := TT) ?_ | refine r_region (T := TT) rfl ?_ | refine r_block (T := TT) ?_ | refine r_then (T := TT) rfl ?_ | refine r_else (T := TT) rfl ?_)
        exact r_fin (T := TT) rfl rfl
    · refine ⟨false, ?_⟩
      refine callOK_of TT_ok mixT Tryz.func115 rfl rfl (Nat.le_of_ble_eq_true rfl) ?_
      repeat refine r_seq (T := TT) ?_
      refine r_region (T := TT) rfl ?_
      repeat (first | refine r_op rfl rfl rfl rfl ?_ | refine r_skip rfl rfl rfl ?_)
      try refine .done ?_
      repeat refine r_seq (T := TT) ?_
      refine r_region (T := TT) rfl ?_
      iterate 1 (first | refine r_op rfl rfl rfl rfl ?_ | refine r_skip rfl rfl rfl ?_)
      refine r_bin rfl rfl rfl rfl rfl rfl rfl (binV_neT (a := s) (b := []) h0) ?_
      iterate 3 (first | refine r_op rfl rfl rfl rfl ?_ | refine r_skip rfl rfl rfl ?_)
      refine r_eq (v' := .bool false) rfl rfl rfl rfl ?_ ?_
      · exact congrArg Value.bool (decide_eq_false (by omega))
      repeat (first | refine r_op rfl rfl rfl rfl ?_ | refine r_skip rfl rfl rfl ?_ | refine .done ?_ | refine r_seq (T := TT) ?_ | refine r_region (T := TT) rfl ?_ | refine r_block (T := TT) ?_ | refine r_then (T := TT) rfl ?_ | refine r_else (T := TT) rfl ?_)
      exact r_fin (T := TT) rfl rfl
end Go.Proofs.YtmpadildchphgaaGreatDoor
namespace Go.Proofs.YtmpadildchphgaaGreatDoor
open Go.RowKit
theorem rx_ind {p : Rx → Prop} (h : ∀ op na xs nb ys nm args, (∀ y ∈ args, p y) → p (.mk op na xs nb ys nm args)) : ∀ x, p x
  | .mk op na xs nb ys nm args => h op na xs nb ys nm args (fun y hy => rx_ind h y)
decreasing_by
  have := List.sizeOf_lt_of_mem hy
  simp
  omega
theorem aR_form (x : Rx) : ∃ o na xs nb ys nm n cs, aR x = cell7 o na xs nb ys nm n cs := by
  obtain ⟨op, na, xs, nb, ys, nm, args⟩ := x
  exact ⟨op, na, xs, nb, ys, nm, args.length, aRs args, rfl⟩
mutual
def szX : Rx → Nat
  | .mk _ _ _ _ _ _ args => szXs args + 1
def szXs : List Rx → Nat
  | [] => 0
  | x :: r => szX x + szXs r
end
mutual
def ndX : Rx → Nat → Nat
  | .mk _ _ _ _ _ _ args, m => ndL args 1 m
def ndL : List Rx → Nat → Nat → Nat
  | [], n, _ => n
  | y :: r, n, m => if n ≤ m then ndL r (n + ndX y (m - n)) m else n
end
theorem ndL_over : ∀ {l : List Rx} {n m : Nat}, m < n → ndL l n m = n
  | [], n, m, _ => rfl
  | y :: r, n, m, h => by rw [ndL, if_neg (by omega)]
theorem ndL_drop {l : List Rx} {i : Nat} (h : i < l.length) {n m : Nat} (hn : n ≤ m) : ndL (l.drop i) n m = ndL (l.drop (i + 1)) (n + ndX l[i] (m - n)) m := by
  rw [List.drop_eq_getElem_cons h, ndL, if_pos hn]
theorem ndX_le : ∀ (x : Rx) (m : Nat), 1 ≤ ndX x m ∧ ndX x m ≤ m + 1 ∧ (ndX x m ≤ m → ndX x m = szX x) := by
  refine rx_ind fun op na xs nb ys nm args ih m => ?_
  have key : ∀ (l : List Rx), (∀ y ∈ l, ∀ m, 1 ≤ ndX y m ∧ ndX y m ≤ m + 1 ∧ (ndX y m ≤ m → ndX y m = szX y)) → ∀ n, 1 ≤ n → n ≤ m + 1 → 1 ≤ ndL l n m ∧ ndL l n m ≤ m + 1 ∧ (ndL l n m ≤ m → ndL l n m = n + szXs l) := by
    intro l
    induction l with
    | nil => intro _ n h1 h2; exact ⟨h1, h2, fun _ => rfl⟩
    | cons y r ihr =>
      intro h n h1 h2
      by_cases hn : n ≤ m
      · rw [ndL, if_pos hn]
        obtain ⟨a1, a2, a3⟩ := h y (by simp) (m - n)
        obtain ⟨b1, b2, b3⟩ := ihr (fun z hz => h z (by simp [hz])) (n + ndX y (m - n)) (by omega) (by omega)
        refine ⟨b1, b2, fun hle => ?_⟩
        rw [b3 hle, szXs]
        by_cases hm : n + ndX y (m - n) ≤ m
        · rw [a3 (by omega)]; omega
        · rw [ndL_over (by omega)] at hle; omega
      · rw [ndL, if_neg hn]
        exact ⟨h1, h2, fun h => absurd h hn⟩
  rw [ndX, szX]
  obtain ⟨c1, c2, c3⟩ := key args ih 1 (Nat.le_refl _) (by omega)
  exact ⟨c1, c2, fun h => by rw [c3 h]; omega⟩
set_option maxHeartbeats 1000000 in
theorem ok_Nodes : ∀ (x : Rx), WdX x → ∀ m : Nat, m ≤ 1000000 → CallOK Tryz.prog 52 [dR x, dN .i64 m] (.one (dN .i64 (ndX x m))) := by
  refine rx_ind fun op na xs nb ys nm args ih hx m hm => ?_
  obtain ⟨_, _, _, _, _, hlen, hargs⟩ := hx
  show CallOK Tryz.prog _ [.agg (cell7 op na xs nb ys nm args.length (aRs args)), _] _
  have ht0 := (ndX_le (.mk op na xs nb ys nm args) m).2.1
  rw [ndX] at ht0 ⊢
  generalize ht : ndL args 1 m = t at ht0
  refine callOK_of TT_ok mixT Tryz.func52 rfl rfl (Nat.le_of_ble_eq_true rfl) ?_
  repeat (first | refine r_op rfl rfl rfl rfl ?_ | refine r_skip rfl rfl rfl ?_ | refine .done ?_ | refine r_seq (T := TT) ?_ | refine r_region (T := TT) rfl ?_ | refine r_block (T := TT) ?_ | refine r_then (T := TT) rfl ?_ | refine r_else (T := TT) rfl ?_)
  refine r_loop (Nat × Nat) (fun s => s.1 ≤ args.length ∧ 1 ≤ s.2 ∧ s.2 ≤ m + 1 ∧ ndL (args.drop s.1) s.2 m = t) (fun s => ⟨[(1, .d (dN .i64 m)), (2, .box 0 0), (4, .d (dN .i64 0)), (5, .d (dN .i64 s.2)), (6, .d (dN .i64 s.1))], [(0, some (cell7 op na xs nb ys nm args.length (aRs args)))]⟩) (fun s => args.length - s.1) (0, 1) ⟨Nat.zero_le _, Nat.le_refl _, by dsimp only; omega, ht⟩
    (weak ⟨rfl, rfl, rfl, rfl, rfl, trivial⟩ ⟨rfl, trivial⟩ rfl) ?_
  rintro ⟨i, n⟩ ⟨hi, h1, h2, hd⟩
  dsimp only at hi h1 h2 hd ⊢
  repeat refine r_seq (T := TT) ?_
  refine r_region (T := TT) rfl ?_
  iterate 4 (first | refine r_op rfl rfl rfl rfl ?_ | refine r_skip rfl rfl rfl ?_)
  by_cases hlt : i < args.length
  · refine r_eq (v' := .bool true) rfl rfl rfl rfl ?_ ?_
    · exact congrArg Value.bool (decide_eq_true (by omega))
    iterate 3 (first | refine r_op rfl rfl rfl rfl ?_ | refine r_skip rfl rfl rfl ?_)
    by_cases hn : n ≤ m
    · refine r_eq (v' := .bool true) rfl rfl rfl rfl ?_ ?_
      · exact congrArg Value.bool (decide_eq_true (by omega))
      obtain ⟨o1, na1, xs1, nb1, ys1, nm1, n1, cs1, hA⟩ := aR_form args[i]
      have hat : ∀ (j : Nat) (a : AV), (cell7 o1 na1 xs1 nb1 ys1 nm1 n1 cs1)[j]? = some a → (aRs args)[i * 7 + j]? = some a := fun j a h => aRs_at args i args[i] (by simp [hlt]) j a (by rw [hA]; exact h)
      have c := ih args[i] (List.getElem_mem hlt) (hargs _ (List.getElem_mem hlt)) (m - n) (by omega)
      rw [show dR args[i] = .agg (cell7 o1 na1 xs1 nb1 ys1 nm1 n1 cs1) from congrArg DV.agg hA] at c
      obtain ⟨k1, k2, _⟩ := ndX_le args[i] (m - n)
      have hstep := ndL_drop hlt hn
      generalize ndX args[i] (m - n) = k at *
      repeat (first | refine r_op rfl rfl rfl rfl ?_ | refine r_skip rfl rfl rfl ?_ | refine .done ?_ | refine r_seq (T := TT) ?_ | refine r_region (T := TT) rfl ?_ | refine r_block (T := TT) ?_ | refine r_then (T := TT) rfl ?_ | refine r_else (T := TT) rfl ?_)
      refine r_idx (i := i) (cs' := cell7 o1 na1 xs1 nb1 ys1 nm1 n1 cs1) hlt hat (Nat.zero_lt_succ 6) rfl rfl rfl rfl rfl rfl rfl rfl ?_
      iterate 3 (first | refine r_op rfl rfl rfl rfl ?_ | refine r_skip rfl rfl rfl ?_)
      refine r_eq (v' := .int .i64 ((m - n : Nat))) rfl rfl rfl rfl ?_ ?_
      · exact congrArg (Value.int .i64) (by rw [IntWalk.i64_in _ (by omega)]; omega)
      refine r_call (c) rfl rfl rfl rfl rfl rfl rfl ?_
      repeat (first | refine r_op rfl rfl rfl rfl ?_ | refine r_skip rfl rfl rfl ?_ | refine .done ?_ | refine r_seq (T := TT) ?_ | refine r_region (T := TT) rfl ?_ | refine r_block (T := TT) ?_ | refine r_then (T := TT) rfl ?_ | refine r_else (T := TT) rfl ?_)
      exact ⟨(i + 1, n + k), ⟨hlt, by dsimp only; omega, by dsimp only; omega, by dsimp only; rw [← hstep]; exact hd⟩, by dsimp only; omega, weak ⟨rfl, rfl, rfl, tv_i64 (by omega) (by omega), tv_i64 (by omega) (by omega), trivial⟩ ⟨rfl, trivial⟩ rfl⟩
    · refine r_eq (v' := .bool false) rfl rfl rfl rfl ?_ ?_
      · exact congrArg Value.bool (decide_eq_false (by omega))
      repeat (first | refine r_op rfl rfl rfl rfl ?_ | refine r_skip rfl rfl rfl ?_ | refine .done ?_ | refine r_seq (T := TT) ?_ | refine r_region (T := TT) rfl ?_ | refine r_block (T := TT) ?_ | refine r_then (T := TT) rfl ?_ | refine r_else (T := TT) rfl ?_)
      rw [← hd, ndL_over (by omega)]
      exact r_fin (T := TT) rfl rfl
  · refine r_eq (v' := .bool false) rfl rfl rfl rfl ?_ ?_
    · exact congrArg Value.bool (decide_eq_false (by omega))
    repeat (first | refine r_op rfl rfl rfl rfl ?_ | refine r_skip rfl rfl rfl ?_ | refine .done ?_ | refine r_seq (T := TT) ?_ | refine r_region (T := TT) rfl ?_ | refine r_block (T := TT) ?_ | refine r_then (T := TT) rfl ?_ | refine r_else (T := TT) rfl ?_)
    rw [← hd, List.drop_eq_nil_of_le (by omega), ndL]
    exact r_fin (T := TT) rfl rfl
mutual
def ltX : Rx → Bool
  | .mk _ _ xs _ ys nm args => ltXs args && (decide (xs.length ≤ 8) && decide (ys.length ≤ 8) && decide (nm.length ≤ 60))
def ltXs : List Rx → Bool
  | [] => true
  | y :: r => ltX y && ltXs r
end
theorem ltXs_mem : ∀ {l : List Rx}, ltXs l = true → ∀ y ∈ l, ltX y = true
  | a :: l, h, y, hy => by
    simp only [ltXs, Bool.and_eq_true] at h
    rcases List.mem_cons.1 hy with rfl | hy
    · exact h.1
    · exact ltXs_mem h.2 y hy
theorem ltXs_all : ∀ {l : List Rx}, (∀ (q : Nat) (y : Rx), l[q]? = some y → ltX y = true) → ltXs l = true
  | [], _ => rfl
  | a :: l, h => by
    simp only [ltXs, Bool.and_eq_true]
    exact ⟨h 0 a rfl, ltXs_all fun q y hq => h (q + 1) y (by simpa using hq)⟩
set_option maxHeartbeats 1000000 in
theorem ok_light : ∀ (x : Rx), WdX x → CallOK Tryz.prog 82 [dR x] (.one (dB (ltX x))) := by
  refine rx_ind fun op na xs nb ys nm args ih hx => ?_
  obtain ⟨_, _, _, _, _, hlen, hargs⟩ := hx
  have hB := Bs_size nm
  show CallOK Tryz.prog _ [.agg (cell7 op na xs nb ys nm args.length (aRs args))] _
  refine callOK_of TT_ok mixT Tryz.func82 rfl rfl (Nat.le_of_ble_eq_true rfl) ?_
  repeat (first | refine r_op rfl rfl rfl rfl ?_ | refine r_skip rfl rfl rfl ?_ | refine .done ?_ | refine r_seq (T := TT) ?_ | refine r_region (T := TT) rfl ?_ | refine r_block (T := TT) ?_ | refine r_then (T := TT) rfl ?_ | refine r_else (T := TT) rfl ?_)
  refine r_loop Nat (fun i => i ≤ args.length ∧ ∀ (q : Nat) y, q < i → args[q]? = some y → ltX y = true) (fun i => ⟨[(1, .box 0 0), (2, .d (dB false)), (3, .d (dN .i64 i))], [(0, some (cell7 op na xs nb ys nm args.length (aRs args)))]⟩) (fun i => args.length - i) 0 ⟨Nat.zero_le _, fun q y h => absurd h (Nat.not_lt_zero _)⟩
    (weak ⟨rfl, rfl, rfl, trivial⟩ ⟨rfl, trivial⟩ rfl) ?_
  rintro i ⟨hi, hq⟩
  repeat refine r_seq (T := TT) ?_
  refine r_region (T := TT) rfl ?_
  iterate 4 (first | refine r_op rfl rfl rfl rfl ?_ | refine r_skip rfl rfl rfl ?_)
  by_cases hlt : i < args.length
  · refine r_eq (v' := .bool true) rfl rfl rfl rfl ?_ ?_
    · exact congrArg Value.bool (decide_eq_true (by omega))
    obtain ⟨o1, na1, xs1, nb1, ys1, nm1, n1, cs1, hA⟩ := aR_form args[i]
    have hx : args[i]? = some args[i] := by simp [hlt]
    have hat : ∀ (j : Nat) (a : AV), (cell7 o1 na1 xs1 nb1 ys1 nm1 n1 cs1)[j]? = some a → (aRs args)[i * 7 + j]? = some a := fun j a h => aRs_at args i args[i] hx j a (by rw [hA]; exact h)
    have c := ih args[i] (List.getElem_mem hlt) (hargs _ (List.getElem_mem hlt))
    rw [show dR args[i] = .agg (cell7 o1 na1 xs1 nb1 ys1 nm1 n1 cs1) from congrArg DV.agg hA] at c
    repeat (first | refine r_op rfl rfl rfl rfl ?_ | refine r_skip rfl rfl rfl ?_ | refine .done ?_ | refine r_seq (T := TT) ?_ | refine r_region (T := TT) rfl ?_ | refine r_block (T := TT) ?_ | refine r_then (T := TT) rfl ?_ | refine r_else (T := TT) rfl ?_)
    refine r_idx (i := i) (cs' := cell7 o1 na1 xs1 nb1 ys1 nm1 n1 cs1) hlt hat (Nat.zero_lt_succ 6) rfl rfl rfl rfl rfl rfl rfl rfl ?_
    iterate 1 (first | refine r_op rfl rfl rfl rfl ?_ | refine r_skip rfl rfl rfl ?_)
    cases hb : ltX args[i]
    · rw [hb] at c
      refine r_call (c) rfl rfl rfl rfl rfl rfl rfl ?_
      repeat (first | refine r_op rfl rfl rfl rfl ?_ | refine r_skip rfl rfl rfl ?_ | refine .done ?_ | refine r_seq (T := TT) ?_ | refine r_region (T := TT) rfl ?_ | refine r_block (T := TT) ?_ | refine r_then (T := TT) rfl ?_ | refine r_else (T := TT) rfl ?_)
      rw [show ltX (.mk op na xs nb ys nm args) = false by
        rw [ltX, Bool.and_eq_false_iff]
        refine .inl ?_
        cases h : ltXs args
        · rfl
        · rw [ltXs_mem h _ (List.getElem_mem hlt)] at hb; cases hb]
      exact r_fin (T := TT) rfl rfl
    · rw [hb] at c
      refine r_call (c) rfl rfl rfl rfl rfl rfl rfl ?_
      repeat (first | refine r_op rfl rfl rfl rfl ?_ | refine r_skip rfl rfl rfl ?_ | refine .done ?_ | refine r_seq (T := TT) ?_ | refine r_region (T := TT) rfl ?_ | refine r_block (T := TT) ?_ | refine r_then (T := TT) rfl ?_ | refine r_else (T := TT) rfl ?_)
      exact ⟨i + 1, ⟨hlt, fun q y h1 h2 => by
        by_cases e : q = i
        · subst e; rw [hx] at h2; cases h2; exact hb
        · exact hq q y (by omega) h2⟩, by omega, weak ⟨rfl, rfl, tv_i64 (by omega) (by omega), trivial⟩ ⟨rfl, trivial⟩ rfl⟩
  · refine r_eq (v' := .bool false) rfl rfl rfl rfl ?_ ?_
    · exact congrArg Value.bool (decide_eq_false (by omega))
    have hall : ltXs args = true := ltXs_all fun q y h => hq q y (by have := (List.getElem?_eq_some_iff.1 h).1; omega) h
    rw [ltX, hall, Bool.true_and]
    repeat (first | refine r_op rfl rfl rfl rfl ?_ | refine r_skip rfl rfl rfl ?_ | refine .done ?_)
    refine r_seq (T := TT) ?_
    refine r_else (T := TT) rfl ?_
    refine r_exit ?_
    repeat refine r_seq (T := TT) ?_
    refine r_region (T := TT) rfl ?_
    iterate 5 (first | refine r_op rfl rfl rfl rfl ?_ | refine r_skip rfl rfl rfl ?_)
    by_cases l1 : xs.length ≤ 8
    · refine r_eq (v' := .bool true) rfl rfl rfl rfl ?_ ?_
      · exact congrArg Value.bool (decide_eq_true (by omega))
      iterate 6 (first | refine r_op rfl rfl rfl rfl ?_ | refine r_skip rfl rfl rfl ?_)
      by_cases l2 : ys.length ≤ 8
      · refine r_eq (v' := .bool true) rfl rfl rfl rfl ?_ ?_
        · exact congrArg Value.bool (decide_eq_true (by omega))
        iterate 5 (first | refine r_op rfl rfl rfl rfl ?_ | refine r_skip rfl rfl rfl ?_)
        by_cases l3 : nm.length ≤ 60
        · refine r_eq (v' := .bool true) rfl rfl rfl rfl ?_ ?_
          · exact congrArg Value.bool (decide_eq_true (by omega))
          repeat (first | refine r_op rfl rfl rfl rfl ?_ | refine r_skip rfl rfl rfl ?_ | refine .done ?_ | refine r_seq (T := TT) ?_ | refine r_region (T := TT) rfl ?_ | refine r_block (T := TT) ?_ | refine r_then (T := TT) rfl ?_ | refine r_else (T := TT) rfl ?_)
          rw [decide_eq_true l1, decide_eq_true l2, decide_eq_true l3]
          exact r_fin (T := TT) rfl rfl
        · refine r_eq (v' := .bool false) rfl rfl rfl rfl ?_ ?_
          · exact congrArg Value.bool (decide_eq_false (by omega))
          repeat (first | refine r_op rfl rfl rfl rfl ?_ | refine r_skip rfl rfl rfl ?_ | refine .done ?_ | refine r_seq (T := TT) ?_ | refine r_region (T := TT) rfl ?_ | refine r_block (T := TT) ?_ | refine r_then (T := TT) rfl ?_ | refine r_else (T := TT) rfl ?_)
          rw [decide_eq_true l1, decide_eq_true l2, decide_eq_false l3]
          exact r_fin (T := TT) rfl rfl
      · refine r_eq (v' := .bool false) rfl rfl rfl rfl ?_ ?_
        · exact congrArg Value.bool (decide_eq_false (by omega))
        repeat (first | refine r_op rfl rfl rfl rfl ?_ | refine r_skip rfl rfl rfl ?_ | refine .done ?_ | refine r_seq (T := TT) ?_ | refine r_region (T := TT) rfl ?_ | refine r_block (T := TT) ?_ | refine r_then (T := TT) rfl ?_ | refine r_else (T := TT) rfl ?_)
        rw [decide_eq_true l1, decide_eq_false l2]
        exact r_fin (T := TT) rfl rfl
    · refine r_eq (v' := .bool false) rfl rfl rfl rfl ?_ ?_
      · exact congrArg Value.bool (decide_eq_false (by omega))
      repeat (first | refine r_op rfl rfl rfl rfl ?_ | refine r_skip rfl rfl rfl ?_ | refine .done ?_ | refine r_seq (T := TT) ?_ | refine r_region (T := TT) rfl ?_ | refine r_block (T := TT) ?_ | refine r_then (T := TT) rfl ?_ | refine r_else (T := TT) rfl ?_)
      rw [decide_eq_false l1]
      exact r_fin (T := TT) rfl rfl
mutual
def dpX : Rx → Nat
  | .mk _ _ _ _ _ _ args => dpXs args + 1
def dpXs : List Rx → Nat
  | [] => 0
  | y :: r => max (dpX y) (dpXs r)
end
theorem dpX_le : ∀ x, dpX x ≤ szX x := by
  refine rx_ind fun op na xs nb ys nm args ih => ?_
  have key : ∀ l : List Rx, (∀ y ∈ l, dpX y ≤ szX y) → dpXs l ≤ szXs l := by
    intro l
    induction l with
    | nil => intro _; exact Nat.le_refl _
    | cons y r ihr =>
      intro h
      have h1 := h y (by simp)
      have h2 := ihr fun z hz => h z (by simp [hz])
      rw [dpXs, szXs]
      omega
  rw [dpX, szX]
  have := key args ih
  omega
theorem szX_mem : ∀ {l : List Rx} {y : Rx}, y ∈ l → szX y ≤ szXs l
  | a :: l, y, h => by
    rw [szXs]
    rcases List.mem_cons.1 h with rfl | h
    · omega
    · have := szX_mem h; omega
theorem dpX_mem : ∀ {l : List Rx} {y : Rx}, y ∈ l → dpX y ≤ dpXs l
  | a :: l, y, h => by
    rw [dpXs]
    rcases List.mem_cons.1 h with rfl | h
    · omega
    · have := dpX_mem h; omega
set_option maxHeartbeats 1000000 in
theorem ok_Depth : ∀ (x : Rx), WdX x → szX x ≤ 1000000 → CallOK Tryz.prog 55 [dR x] (.one (dN .i64 (dpX x))) := by
  refine rx_ind fun op na xs nb ys nm args ih hx hs => ?_
  have hd0 := dpX_le (.mk op na xs nb ys nm args)
  obtain ⟨_, _, _, _, _, hlen, hargs⟩ := hx
  rw [szX] at hs
  rw [dpX, szX] at hd0
  show CallOK Tryz.prog _ [.agg (cell7 op na xs nb ys nm args.length (aRs args))] _
  refine callOK_of TT_ok mixT Tryz.func55 rfl rfl (Nat.le_of_ble_eq_true rfl) ?_
  repeat (first | refine r_op rfl rfl rfl rfl ?_ | refine r_skip rfl rfl rfl ?_ | refine .done ?_ | refine r_seq (T := TT) ?_ | refine r_region (T := TT) rfl ?_ | refine r_block (T := TT) ?_ | refine r_then (T := TT) rfl ?_ | refine r_else (T := TT) rfl ?_)
  refine r_loop (Nat × Nat) (fun s => s.1 ≤ args.length ∧ s.2 ≤ dpXs args ∧ max s.2 (dpXs (args.drop s.1)) = dpXs args) (fun s => ⟨[(1, .box 0 0), (2, .d (dN .i64 0)), (3, .d (dN .i64 s.2)), (4, .d (dN .i64 s.1))], [(0, some (cell7 op na xs nb ys nm args.length (aRs args)))]⟩) (fun s => args.length - s.1) (0, 0) ⟨Nat.zero_le _, Nat.zero_le _, Nat.zero_max _⟩
    (weak ⟨rfl, rfl, rfl, rfl, trivial⟩ ⟨rfl, trivial⟩ rfl) ?_
  rintro ⟨i, d⟩ ⟨hi, h1, h2⟩
  dsimp only at hi h1 h2 ⊢
  repeat refine r_seq (T := TT) ?_
  refine r_region (T := TT) rfl ?_
  iterate 4 (first | refine r_op rfl rfl rfl rfl ?_ | refine r_skip rfl rfl rfl ?_)
  by_cases hlt : i < args.length
  · refine r_eq (v' := .bool true) rfl rfl rfl rfl ?_ ?_
    · exact congrArg Value.bool (decide_eq_true (by omega))
    obtain ⟨o1, na1, xs1, nb1, ys1, nm1, n1, cs1, hA⟩ := aR_form args[i]
    have hx : args[i]? = some args[i] := by simp [hlt]
    have hat : ∀ (j : Nat) (a : AV), (cell7 o1 na1 xs1 nb1 ys1 nm1 n1 cs1)[j]? = some a → (aRs args)[i * 7 + j]? = some a := fun j a h => aRs_at args i args[i] hx j a (by rw [hA]; exact h)
    have hm := List.getElem_mem hlt
    have hsz := szX_mem hm
    have hdp := dpX_mem hm
    have c := ih args[i] hm (hargs _ hm) (by omega)
    rw [show dR args[i] = .agg (cell7 o1 na1 xs1 nb1 ys1 nm1 n1 cs1) from congrArg DV.agg hA] at c
    rw [List.drop_eq_getElem_cons hlt, dpXs] at h2
    generalize dpX args[i] = k at *
    repeat (first | refine r_op rfl rfl rfl rfl ?_ | refine r_skip rfl rfl rfl ?_ | refine .done ?_ | refine r_seq (T := TT) ?_ | refine r_region (T := TT) rfl ?_ | refine r_block (T := TT) ?_ | refine r_then (T := TT) rfl ?_ | refine r_else (T := TT) rfl ?_)
    refine r_idx (i := i) (cs' := cell7 o1 na1 xs1 nb1 ys1 nm1 n1 cs1) hlt hat (Nat.zero_lt_succ 6) rfl rfl rfl rfl rfl rfl rfl rfl ?_
    iterate 1 (first | refine r_op rfl rfl rfl rfl ?_ | refine r_skip rfl rfl rfl ?_)
    refine r_call (c) rfl rfl rfl rfl rfl rfl rfl ?_
    refine r_max (a := d) (b := k) (m := (max d k : Nat)) (by omega) rfl rfl rfl rfl rfl rfl ?_
    repeat (first | refine r_op rfl rfl rfl rfl ?_ | refine r_skip rfl rfl rfl ?_ | refine .done ?_ | refine r_seq (T := TT) ?_ | refine r_region (T := TT) rfl ?_ | refine r_block (T := TT) ?_ | refine r_then (T := TT) rfl ?_ | refine r_else (T := TT) rfl ?_)
    exact ⟨(i + 1, max d k), ⟨hlt, by dsimp only; omega, by dsimp only; omega⟩, by dsimp only; omega, weak ⟨rfl, rfl, rfl, tv_i64 (by omega) (by omega), trivial⟩ ⟨rfl, trivial⟩ rfl⟩
  · refine r_eq (v' := .bool false) rfl rfl rfl rfl ?_ ?_
    · exact congrArg Value.bool (decide_eq_false (by omega))
    rw [List.drop_eq_nil_of_le (by omega), dpXs] at h2
    have hdd : d = dpXs args := by omega
    rw [dpX, ← hdd]
    repeat (first | refine r_op rfl rfl rfl rfl ?_ | refine r_skip rfl rfl rfl ?_ | refine .done ?_)
    refine r_seq (T := TT) ?_
    refine r_else (T := TT) rfl ?_
    refine r_exit ?_
    repeat refine r_seq (T := TT) ?_
    refine r_region (T := TT) rfl ?_
    iterate 1 (first | refine r_op rfl rfl rfl rfl ?_ | refine r_skip rfl rfl rfl ?_)
    refine r_eq (v' := .int .i64 ((d + 1 : Nat))) rfl rfl rfl rfl ?_ ?_
    · exact congrArg (Value.int .i64) (by rw [IntWalk.i64_in _ (by omega)]; omega)
    repeat (first | refine r_op rfl rfl rfl rfl ?_ | refine r_skip rfl rfl rfl ?_ | refine .done ?_ | refine r_seq (T := TT) ?_ | refine r_region (T := TT) rfl ?_ | refine r_block (T := TT) ?_ | refine r_then (T := TT) rfl ?_ | refine r_else (T := TT) rfl ?_)
    exact r_fin (T := TT) rfl rfl
end Go.Proofs.YtmpadildchphgaaGreatDoor
namespace Go.Proofs.YtmpadildchphgaaGreatDoor
open Go.RowKit
theorem ok_r22_Small (x : Rx) (hx : WdX x) : CallOK Tryz.prog 53 [dR x] (.one (dB (decide (ndX x 120 ≤ 120) && ltX x))) := by
  have c1 := ok_Nodes x hx 120 (by decide)
  have c2 := ok_light x hx
  have hn := ndX_le x 120
  obtain ⟨o1, na1, xs1, nb1, ys1, nm1, n1, cs1, hA⟩ := aR_form x
  rw [show dR x = .agg (cell7 o1 na1 xs1 nb1 ys1 nm1 n1 cs1) from congrArg DV.agg hA] at c1 c2 ⊢
  generalize ndX x 120 = k at *
  by_cases hk : k ≤ 120
  · rw [decide_eq_true hk, Bool.true_and]
    refine callOK_of TT_ok mixT Tryz.func53 rfl rfl (Nat.le_of_ble_eq_true rfl) ?_
    repeat (first | refine r_op rfl rfl rfl rfl ?_ | refine r_skip rfl rfl rfl ?_ | refine .done ?_ | refine r_seq (T := TT) ?_ | refine r_region (T := TT) rfl ?_ | refine r_block (T := TT) ?_ | refine r_then (T := TT) rfl ?_ | refine r_else (T := TT) rfl ?_)
    refine r_call (c1) rfl rfl rfl rfl rfl rfl rfl ?_
    refine r_eq (v' := .bool true) rfl rfl rfl rfl ?_ ?_
    · exact congrArg Value.bool (decide_eq_true (by omega))
    repeat (first | refine r_op rfl rfl rfl rfl ?_ | refine r_skip rfl rfl rfl ?_ | refine .done ?_ | refine r_seq (T := TT) ?_ | refine r_region (T := TT) rfl ?_ | refine r_block (T := TT) ?_ | refine r_then (T := TT) rfl ?_ | refine r_else (T := TT) rfl ?_)
    refine r_call (c2) rfl rfl rfl rfl rfl rfl rfl ?_
    repeat (first | refine r_op rfl rfl rfl rfl ?_ | refine r_skip rfl rfl rfl ?_ | refine .done ?_ | refine r_seq (T := TT) ?_ | refine r_region (T := TT) rfl ?_ | refine r_block (T := TT) ?_ | refine r_then (T := TT) rfl ?_ | refine r_else (T := TT) rfl ?_)
    exact r_fin (T := TT) rfl rfl
  · rw [decide_eq_false hk, Bool.false_and]
    refine callOK_of TT_ok mixT Tryz.func53 rfl rfl (Nat.le_of_ble_eq_true rfl) ?_
    repeat (first | refine r_op rfl rfl rfl rfl ?_ | refine r_skip rfl rfl rfl ?_ | refine .done ?_ | refine r_seq (T := TT) ?_ | refine r_region (T := TT) rfl ?_ | refine r_block (T := TT) ?_ | refine r_then (T := TT) rfl ?_ | refine r_else (T := TT) rfl ?_)
    refine r_call (c1) rfl rfl rfl rfl rfl rfl rfl ?_
    refine r_eq (v' := .bool false) rfl rfl rfl rfl ?_ ?_
    · exact congrArg Value.bool (decide_eq_false (by omega))
    repeat (first | refine r_op rfl rfl rfl rfl ?_ | refine r_skip rfl rfl rfl ?_ | refine .done ?_ | refine r_seq (T := TT) ?_ | refine r_region (T := TT) rfl ?_ | refine r_block (T := TT) ?_ | refine r_then (T := TT) rfl ?_ | refine r_else (T := TT) rfl ?_)
    exact r_fin (T := TT) rfl rfl
theorem ok_l23_small (x : Rx) (hx : WdX x) (m : Nat) (hm : m ≤ 1000000) : CallOK Tryz.prog 20 [dR x, dN .i64 m] (.one (dB (decide (ndX x m ≤ m) && (decide (ndX x 120 ≤ 120) && ltX x)))) := by
  have c1 := ok_Nodes x hx m hm
  have c2 := ok_r22_Small x hx
  have hn := ndX_le x m
  obtain ⟨o1, na1, xs1, nb1, ys1, nm1, n1, cs1, hA⟩ := aR_form x
  rw [show dR x = .agg (cell7 o1 na1 xs1 nb1 ys1 nm1 n1 cs1) from congrArg DV.agg hA] at c1 c2 ⊢
  generalize ndX x m = k at *
  by_cases hk : k ≤ m
  · rw [decide_eq_true hk, Bool.true_and]
    refine callOK_of TT_ok mixT Tryz.func20 rfl rfl (Nat.le_of_ble_eq_true rfl) ?_
    repeat (first | refine r_op rfl rfl rfl rfl ?_ | refine r_skip rfl rfl rfl ?_ | refine .done ?_ | refine r_seq (T := TT) ?_ | refine r_region (T := TT) rfl ?_ | refine r_block (T := TT) ?_ | refine r_then (T := TT) rfl ?_ | refine r_else (T := TT) rfl ?_)
    refine r_call (c1) rfl rfl rfl rfl rfl rfl rfl ?_
    iterate 1 (first | refine r_op rfl rfl rfl rfl ?_ | refine r_skip rfl rfl rfl ?_)
    refine r_eq (v' := .bool true) rfl rfl rfl rfl ?_ ?_
    · exact congrArg Value.bool (decide_eq_true (by omega))
    repeat (first | refine r_op rfl rfl rfl rfl ?_ | refine r_skip rfl rfl rfl ?_ | refine .done ?_ | refine r_seq (T := TT) ?_ | refine r_region (T := TT) rfl ?_ | refine r_block (T := TT) ?_ | refine r_then (T := TT) rfl ?_ | refine r_else (T := TT) rfl ?_)
    refine r_call (c2) rfl rfl rfl rfl rfl rfl rfl ?_
    repeat (first | refine r_op rfl rfl rfl rfl ?_ | refine r_skip rfl rfl rfl ?_ | refine .done ?_ | refine r_seq (T := TT) ?_ | refine r_region (T := TT) rfl ?_ | refine r_block (T := TT) ?_ | refine r_then (T := TT) rfl ?_ | refine r_else (T := TT) rfl ?_)
    exact r_fin (T := TT) rfl rfl
  · rw [decide_eq_false hk, Bool.false_and]
    refine callOK_of TT_ok mixT Tryz.func20 rfl rfl (Nat.le_of_ble_eq_true rfl) ?_
    repeat (first | refine r_op rfl rfl rfl rfl ?_ | refine r_skip rfl rfl rfl ?_ | refine .done ?_ | refine r_seq (T := TT) ?_ | refine r_region (T := TT) rfl ?_ | refine r_block (T := TT) ?_ | refine r_then (T := TT) rfl ?_ | refine r_else (T := TT) rfl ?_)
    refine r_call (c1) rfl rfl rfl rfl rfl rfl rfl ?_
    iterate 1 (first | refine r_op rfl rfl rfl rfl ?_ | refine r_skip rfl rfl rfl ?_)
    refine r_eq (v' := .bool false) rfl rfl rfl rfl ?_ ?_
    · exact congrArg Value.bool (decide_eq_false (by omega))
    repeat (first | refine r_op rfl rfl rfl rfl ?_ | refine r_skip rfl rfl rfl ?_ | refine .done ?_ | refine r_seq (T := TT) ?_ | refine r_region (T := TT) rfl ?_ | refine r_block (T := TT) ?_ | refine r_then (T := TT) rfl ?_ | refine r_else (T := TT) rfl ?_)
    exact r_fin (T := TT) rfl rfl
def pw : Rat → Nat → Rat
  | q, 0 => q
  | q, k + 1 => pw q k * ((10 : Int) : Rat)
theorem int_sz1 {n : Int} (h : n.natAbs < 4294967296) : SzQ 1 (n : Rat) := ⟨Sz.small h, Sz.small (z := 1) (by decide)⟩
theorem pw_sz {q : Rat} {n : Nat} (h : SzQ n q) : ∀ k, SzQ (n + k) (pw q k)
  | 0 => h
  | k + 1 => by
    have := SzQ.mul (pw_sz h k) (int_sz1 (n := 10) (by decide))
    rwa [Nat.add_assoc] at this
theorem pw_least (q : Rat) : ∀ n, ∃ K, K ≤ n ∧ (∀ j, j < K → ¬ (((pw q j).den : Int) = 1)) ∧ (K = n ∨ ((pw q K).den : Int) = 1)
  | 0 => ⟨0, Nat.le_refl _, fun j h => absurd h (Nat.not_lt_zero _), .inl rfl⟩
  | n + 1 => by
    obtain ⟨K, h1, h2, h3⟩ := pw_least q n
    rcases h3 with rfl | h3
    · by_cases e : ((pw q K).den : Int) = 1
      · exact ⟨K, by omega, h2, .inr e⟩
      · exact ⟨K + 1, Nat.le_refl _, fun j hj => by
          by_cases ej : j = K
          · subst ej; exact e
          · exact h2 j (by omega), .inl rfl⟩
    · exact ⟨K, by omega, h2, .inr h3⟩
def padT (k : Nat) (t : List UInt8) : List UInt8 := List.replicate (k + 1 - t.length) 48 ++ t
def dotT (k : Nat) (t : List UInt8) : List UInt8 := if 0 < k then (padT k t).take ((padT k t).length - k) ++ [46] ++ (padT k t).drop ((padT k t).length - k) else padT k t
set_option maxHeartbeats 4000000 in
theorem ok_Decimal {na nb : Bool} {xs ys : List Nat} (hw : Wd xs) (hw' : Wd ys) (h1 : xs.length ≤ 8) (h2 : ys.length ≤ 8) :
    ∃ t b, CallOK Tryz.prog 114 [dI2 na xs nb ys] (.tup [dL t, dB b]) ∧ (b = true → ∃ q, aI2 na xs nb ys = aQ q ∧ SzQ 8 q ∧ xs = digs q.num.natAbs ∧ ys = digs (q.den : Int).natAbs) := by
  cases hv : validQ na xs nb ys with
  | false =>
    refine ⟨[], false, ?_, fun h => by cases h⟩
    refine callOK_of TT_ok mixT Tryz.func114 rfl rfl (Nat.le_of_ble_eq_true rfl) ?_
    repeat (first | refine r_op rfl rfl rfl rfl ?_ | refine r_skip rfl rfl rfl ?_ | refine .done ?_ | refine r_seq (T := TT) ?_ | refine r_region (T := TT) rfl ?_ | refine r_block (T := TT) ?_ | refine r_then (T := TT) rfl ?_ | refine r_else (T := TT) rfl ?_)
    refine r_call (ok_r2_Valid' hw hw' (Nat.le_trans h1 (by decide)) (Nat.le_trans h2 (by decide)) hv) rfl rfl rfl rfl rfl rfl rfl ?_
    repeat (first | refine r_op rfl rfl rfl rfl ?_ | refine r_skip rfl rfl rfl ?_ | refine .done ?_ | refine r_seq (T := TT) ?_ | refine r_region (T := TT) rfl ?_ | refine r_block (T := TT) ?_ | refine r_then (T := TT) rfl ?_ | refine r_else (T := TT) rfl ?_)
    exact r_fin (T := TT) rfl rfl
  | true =>
    obtain ⟨q, e, e1, e2⟩ := valid_rat hw hw' hv
    have sq : SzQ 8 q := ⟨Sz.of_digs (by rw [← e1]; exact h1), Sz.of_digs (by rw [← e2]; exact h2)⟩
    have hd : dI2 na xs nb ys = dQ q := congrArg DV.agg e
    rw [hd]
    have cv : CallOK Tryz.prog 69 [dQ q] (.one (dB true)) := ok_r2_ValidQ q sq (by decide)
    by_cases hneg : sgQ q < 0
    · refine ⟨[], false, ?_, fun h => by cases h⟩
      refine callOK_of TT_ok mixT Tryz.func114 rfl rfl (Nat.le_of_ble_eq_true rfl) ?_
      repeat (first | refine r_op rfl rfl rfl rfl ?_ | refine r_skip rfl rfl rfl ?_ | refine .done ?_ | refine r_seq (T := TT) ?_ | refine r_region (T := TT) rfl ?_ | refine r_block (T := TT) ?_ | refine r_then (T := TT) rfl ?_ | refine r_else (T := TT) rfl ?_)
      refine r_call (cv) rfl rfl rfl rfl rfl rfl rfl ?_
      repeat (first | refine r_op rfl rfl rfl rfl ?_ | refine r_skip rfl rfl rfl ?_ | refine .done ?_ | refine r_seq (T := TT) ?_ | refine r_region (T := TT) rfl ?_ | refine r_block (T := TT) ?_ | refine r_then (T := TT) rfl ?_ | refine r_else (T := TT) rfl ?_)
      refine r_call (ok_r2_Sign q) rfl rfl rfl rfl rfl rfl rfl ?_
      refine r_eq (v' := .bool true) rfl rfl rfl rfl ?_ ?_
      · exact congrArg Value.bool (decide_eq_true hneg)
      repeat (first | refine r_op rfl rfl rfl rfl ?_ | refine r_skip rfl rfl rfl ?_ | refine .done ?_ | refine r_seq (T := TT) ?_ | refine r_region (T := TT) rfl ?_ | refine r_block (T := TT) ?_ | refine r_then (T := TT) rfl ?_ | refine r_else (T := TT) rfl ?_)
      exact r_fin (T := TT) rfl rfl
    · obtain ⟨K, k1, k2, k3⟩ := pw_least q 41
      have main : ∀ t b, (K = 41 → t = [] ∧ b = false) → (K ≤ 40 → t = dotT K (fmt (pw q K).num) ∧ b = decide (t.length ≤ 40)) → CallOK Tryz.prog 114 [dQ q] (.tup [dL t, dB b]) := by
        intro t b g1 g2
        refine callOK_of TT_ok mixT Tryz.func114 rfl rfl (Nat.le_of_ble_eq_true rfl) ?_
        repeat (first | refine r_op rfl rfl rfl rfl ?_ | refine r_skip rfl rfl rfl ?_ | refine .done ?_ | refine r_seq (T := TT) ?_ | refine r_region (T := TT) rfl ?_ | refine r_block (T := TT) ?_ | refine r_then (T := TT) rfl ?_ | refine r_else (T := TT) rfl ?_)
        refine r_call (cv) rfl rfl rfl rfl rfl rfl rfl ?_
        repeat (first | refine r_op rfl rfl rfl rfl ?_ | refine r_skip rfl rfl rfl ?_ | refine .done ?_ | refine r_seq (T := TT) ?_ | refine r_region (T := TT) rfl ?_ | refine r_block (T := TT) ?_ | refine r_then (T := TT) rfl ?_ | refine r_else (T := TT) rfl ?_)
        refine r_call (ok_r2_Sign q) rfl rfl rfl rfl rfl rfl rfl ?_
        refine r_eq (v' := .bool false) rfl rfl rfl rfl ?_ ?_
        · exact congrArg Value.bool (decide_eq_false hneg)
        repeat (first | refine r_op rfl rfl rfl rfl ?_ | refine r_skip rfl rfl rfl ?_ | refine .done ?_ | refine r_seq (T := TT) ?_ | refine r_region (T := TT) rfl ?_ | refine r_block (T := TT) ?_ | refine r_then (T := TT) rfl ?_ | refine r_else (T := TT) rfl ?_)
        refine r_call (ok_r2_FromInt 10 (by decide) (by decide) (q := ((10 : Int) : Rat)) rfl) rfl rfl rfl rfl rfl rfl rfl ?_
        repeat (first | refine r_op rfl rfl rfl rfl ?_ | refine r_skip rfl rfl rfl ?_ | refine .done ?_ | refine r_seq (T := TT) ?_ | refine r_region (T := TT) rfl ?_ | refine r_block (T := TT) ?_ | refine r_then (T := TT) rfl ?_ | refine r_else (T := TT) rfl ?_)
        refine r_call (ok_r1_FromInt 1 (by decide) (by decide)) rfl rfl rfl rfl rfl rfl rfl ?_
        repeat (first | refine r_op rfl rfl rfl rfl ?_ | refine r_skip rfl rfl rfl ?_ | refine .done ?_ | refine r_seq (T := TT) ?_ | refine r_region (T := TT) rfl ?_ | refine r_block (T := TT) ?_ | refine r_then (T := TT) rfl ?_ | refine r_else (T := TT) rfl ?_)
        refine r_loop Nat (fun k => k ≤ K) (fun k => ⟨[(1, .box 0 0), (2, .d (dL [])), (3, .d (dB false)), (4, .box 3001 0), (5, .box 4001 0), (6, .box 5001 0), (7, .d (dN .i64 k))], [(0, some (aQ q)), (3001, some (aQ ((10 : Int) : Rat))), (4001, some (aZ 1)), (5001, some (aQ (pw q k)))]⟩) (fun k => 41 - k) 0 (Nat.zero_le _)
          (weak ⟨rfl, rfl, rfl, rfl, rfl, rfl, rfl, trivial⟩ ⟨rfl, rfl, rfl, rfl, trivial⟩ rfl) ?_
        intro k hk
        have sk := pw_sz sq k
        repeat refine r_seq (T := TT) ?_
        refine r_region (T := TT) rfl ?_
        iterate 1 (first | refine r_op rfl rfl rfl rfl ?_ | refine r_skip rfl rfl rfl ?_)
        by_cases h40 : k ≤ 40
        · refine r_eq (v' := .bool true) rfl rfl rfl rfl ?_ ?_
          · exact congrArg Value.bool (decide_eq_true (by omega))
          repeat (first | refine r_op rfl rfl rfl rfl ?_ | refine r_skip rfl rfl rfl ?_ | refine .done ?_ | refine r_seq (T := TT) ?_ | refine r_region (T := TT) rfl ?_ | refine r_block (T := TT) ?_ | refine r_then (T := TT) rfl ?_ | refine r_else (T := TT) rfl ?_)
          have hcs := okz_same (pw q k).den 1
          by_cases hd1 : ((pw q k).den : Int) = 1
          · have hkK : k = K := by
              rcases Nat.lt_or_ge k K with h | h
              · exact absurd hd1 (k2 k h)
              · omega
            rw [decide_eq_true hd1] at hcs
            obtain ⟨rfl, rfl⟩ := g2 (by omega)
            subst hkK
            refine r_call (hcs) rfl rfl rfl rfl rfl rfl rfl ?_
            repeat (first | refine r_op rfl rfl rfl rfl ?_ | refine r_skip rfl rfl rfl ?_ | refine .done ?_ | refine r_seq (T := TT) ?_ | refine r_region (T := TT) rfl ?_ | refine r_block (T := TT) ?_ | refine r_then (T := TT) rfl ?_ | refine r_else (T := TT) rfl ?_)
            have hlen : (fmt (pw q k).num).length ≤ 10 * (8 + k) + 2 := fmt_len sk.1
            refine r_call (okz_r1_Format (FitZ.of_lt sk.1 (by omega))) rfl rfl rfl rfl rfl rfl rfl ?_
            unfold dotT padT
            generalize fmt (pw q k).num = u at *
            repeat (first | refine r_op rfl rfl rfl rfl ?_ | refine r_skip rfl rfl rfl ?_ | refine .done ?_ | refine r_seq (T := TT) ?_ | refine r_region (T := TT) rfl ?_ | refine r_block (T := TT) ?_ | refine r_then (T := TT) rfl ?_ | refine r_else (T := TT) rfl ?_)
            refine r_loop Nat (fun j => j ≤ k + 1 - u.length) (fun j => ⟨[(2, .d (dL [])), (3, .d (dB false)), (7, .d (dN .i64 k)), (8, .d (dL (List.replicate j 48 ++ u)))], []⟩) (fun j => k + 1 - u.length - j) 0 (Nat.zero_le _)
              (weak ⟨rfl, rfl, rfl, rfl, trivial⟩ trivial rfl) ?_
            intro j hj
            have hB : (Bs (List.replicate j 48 ++ u)).size = j + u.length := by rw [Bs_size]; simp
            repeat refine r_seq (T := TT) ?_
            refine r_region (T := TT) rfl ?_
            iterate 3 (first | refine r_op rfl rfl rfl rfl ?_ | refine r_skip rfl rfl rfl ?_)
            by_cases hjk : j + u.length ≤ k
            · refine r_eq (v' := .bool true) rfl rfl rfl rfl ?_ ?_
              · exact congrArg Value.bool (decide_eq_true (by omega))
              repeat (first | refine r_op rfl rfl rfl rfl ?_ | refine r_skip rfl rfl rfl ?_ | refine .done ?_ | refine r_seq (T := TT) ?_ | refine r_region (T := TT) rfl ?_ | refine r_block (T := TT) ?_ | refine r_then (T := TT) rfl ?_ | refine r_else (T := TT) rfl ?_)
              refine r_bin rfl rfl rfl rfl rfl rfl rfl (binV_cat (a := [48]) (b := List.replicate j 48 ++ u) (by simp; omega)) ?_
              repeat (first | refine r_op rfl rfl rfl rfl ?_ | refine r_skip rfl rfl rfl ?_ | refine .done ?_ | refine r_seq (T := TT) ?_ | refine r_region (T := TT) rfl ?_ | refine r_block (T := TT) ?_ | refine r_then (T := TT) rfl ?_ | refine r_else (T := TT) rfl ?_)
              exact ⟨j + 1, by omega, by omega, weak ⟨rfl, rfl, rfl, rfl, trivial⟩ trivial rfl⟩
            · refine r_eq (v' := .bool false) rfl rfl rfl rfl ?_ ?_
              · exact congrArg Value.bool (decide_eq_false (by omega))
              obtain rfl : j = k + 1 - u.length := by omega
              have hwl : (List.replicate (k + 1 - u.length) 48 ++ u).length = k + 1 - u.length + u.length := by simp
              generalize hwd : List.replicate (k + 1 - u.length) 48 ++ u = w at *
              repeat (first | refine r_op rfl rfl rfl rfl ?_ | refine r_skip rfl rfl rfl ?_ | refine .done ?_)
              refine r_seq (T := TT) ?_
              refine r_else (T := TT) rfl ?_
              refine r_exit ?_
              repeat refine r_seq (T := TT) ?_
              refine r_region (T := TT) rfl ?_
              iterate 1 (first | refine r_op rfl rfl rfl rfl ?_ | refine r_skip rfl rfl rfl ?_)
              by_cases hk0 : 0 < k
              · rw [if_pos hk0]
                refine r_eq (v' := .bool true) rfl rfl rfl rfl ?_ ?_
                · exact congrArg Value.bool (decide_eq_true (by omega))
                repeat (first | refine r_op rfl rfl rfl rfl ?_ | refine r_skip rfl rfl rfl ?_ | refine .done ?_)
                refine r_seq (T := TT) ?_
                refine r_then (T := TT) rfl ?_
                repeat (first | refine r_seq (T := TT) ?_ | refine r_block (T := TT) ?_)
                refine r_region (T := TT) rfl ?_
                iterate 4 (first | refine r_op rfl rfl rfl rfl ?_ | refine r_skip rfl rfl rfl ?_)
                refine r_eq (v' := .int .i64 ((w.length - k : Nat))) rfl rfl rfl rfl ?_ ?_
                · exact congrArg (Value.int .i64) (by rw [IntWalk.i64_in _ (by omega)]; omega)
                refine r_shi TT_ok (l := w) (i := w.length - k) (by omega) rfl rfl rfl rfl rfl rfl rfl rfl ?_
                refine r_bin rfl rfl rfl rfl rfl rfl rfl (binV_cat (a := w.take (w.length - k)) (b := [46]) (by simp; omega)) ?_
                iterate 4 (first | refine r_op rfl rfl rfl rfl ?_ | refine r_skip rfl rfl rfl ?_)
                refine r_eq (v' := .int .i64 ((w.length - k : Nat))) rfl rfl rfl rfl ?_ ?_
                · exact congrArg (Value.int .i64) (by rw [IntWalk.i64_in _ (by omega)]; omega)
                refine r_slo TT_ok (l := w) (i := w.length - k) (by omega) rfl rfl rfl rfl rfl rfl rfl rfl ?_
                refine r_bin rfl rfl rfl rfl rfl rfl rfl (binV_cat (a := w.take (w.length - k) ++ [46]) (b := w.drop (w.length - k)) (by simp; omega)) ?_
                generalize hz : w.take (w.length - k) ++ [46] ++ w.drop (w.length - k) = z
                have hzB := Bs_size z
                repeat (first | refine r_op rfl rfl rfl rfl ?_ | refine r_skip rfl rfl rfl ?_ | refine .done ?_)
                repeat refine r_seq (T := TT) ?_
                refine r_region (T := TT) rfl ?_
                iterate 3 (first | refine r_op rfl rfl rfl rfl ?_ | refine r_skip rfl rfl rfl ?_)
                refine r_eq (v' := .bool (decide (z.length ≤ 40))) rfl rfl rfl rfl ?_ ?_
                · exact congrArg Value.bool (decide_eq_decide.2 (by omega))
                repeat (first | refine r_op rfl rfl rfl rfl ?_ | refine r_skip rfl rfl rfl ?_ | refine .done ?_ | refine r_seq (T := TT) ?_ | refine r_region (T := TT) rfl ?_ | refine r_block (T := TT) ?_ | refine r_then (T := TT) rfl ?_ | refine r_else (T := TT) rfl ?_)
                exact r_fin (T := TT) rfl rfl
              · rw [if_neg hk0]
                refine r_eq (v' := .bool false) rfl rfl rfl rfl ?_ ?_
                · exact congrArg Value.bool (decide_eq_false (by omega))
                repeat (first | refine r_op rfl rfl rfl rfl ?_ | refine r_skip rfl rfl rfl ?_ | refine .done ?_)
                refine r_seq (T := TT) ?_
                refine r_else (T := TT) rfl ?_
                repeat refine r_seq (T := TT) ?_
                refine r_region (T := TT) rfl ?_
                iterate 3 (first | refine r_op rfl rfl rfl rfl ?_ | refine r_skip rfl rfl rfl ?_)
                refine r_eq (v' := .bool (decide (w.length ≤ 40))) rfl rfl rfl rfl ?_ ?_
                · exact congrArg Value.bool (decide_eq_decide.2 (by omega))
                repeat (first | refine r_op rfl rfl rfl rfl ?_ | refine r_skip rfl rfl rfl ?_ | refine .done ?_ | refine r_seq (T := TT) ?_ | refine r_region (T := TT) rfl ?_ | refine r_block (T := TT) ?_ | refine r_then (T := TT) rfl ?_ | refine r_else (T := TT) rfl ?_)
                exact r_fin (T := TT) rfl rfl
          · rw [decide_eq_false hd1] at hcs
            refine r_call (hcs) rfl rfl rfl rfl rfl rfl rfl ?_
            repeat (first | refine r_op rfl rfl rfl rfl ?_ | refine r_skip rfl rfl rfl ?_ | refine .done ?_ | refine r_seq (T := TT) ?_ | refine r_region (T := TT) rfl ?_ | refine r_block (T := TT) ?_ | refine r_then (T := TT) rfl ?_ | refine r_else (T := TT) rfl ?_)
            refine r_call (ok_r2_Mul sk (int_sz1 (n := 10) (by decide)) (by omega) (q := pw q (k + 1)) rfl) rfl rfl rfl rfl rfl rfl rfl ?_
            repeat (first | refine r_op rfl rfl rfl rfl ?_ | refine r_skip rfl rfl rfl ?_ | refine .done ?_ | refine r_seq (T := TT) ?_ | refine r_region (T := TT) rfl ?_ | refine r_block (T := TT) ?_ | refine r_then (T := TT) rfl ?_ | refine r_else (T := TT) rfl ?_)
            exact ⟨k + 1, by
              rcases Nat.lt_or_ge k K with h | h
              · exact h
              · obtain rfl : k = K := by omega
                rcases k3 with rfl | k3
                · omega
                · exact absurd k3 hd1, by omega, weak ⟨rfl, rfl, rfl, rfl, rfl, rfl, tv_i64 (by omega) (by omega), trivial⟩ ⟨rfl, rfl, rfl, rfl, trivial⟩ rfl⟩
        · refine r_eq (v' := .bool false) rfl rfl rfl rfl ?_ ?_
          · exact congrArg Value.bool (decide_eq_false (by omega))
          obtain ⟨rfl, rfl⟩ := g1 (by omega)
          repeat (first | refine r_op rfl rfl rfl rfl ?_ | refine r_skip rfl rfl rfl ?_ | refine .done ?_ | refine r_seq (T := TT) ?_ | refine r_region (T := TT) rfl ?_ | refine r_block (T := TT) ?_ | refine r_then (T := TT) rfl ?_ | refine r_else (T := TT) rfl ?_)
          exact r_fin (T := TT) rfl rfl
      by_cases h41 : K = 41
      · exact ⟨[], false, main _ _ (fun _ => ⟨rfl, rfl⟩) (fun h => by omega), fun h => by cases h⟩
      · exact ⟨_, _, main _ _ (fun h => absurd h h41) (fun _ => ⟨rfl, rfl⟩), fun _ => ⟨q, e, sq, e1, e2⟩⟩
end Go.Proofs.YtmpadildchphgaaGreatDoor
namespace Go.Proofs.YtmpadildchphgaaGreatDoor
open Go.RowKit
def ShpX : Rx → Prop
  | .mk op na xs nb ys nm args => (op = 1 ∧ args = [] ∧ ∃ q, aI2 na xs nb ys = aQ q ∧ SzQ 8 q ∧ xs = digs q.num.natAbs ∧ ys = digs (q.den : Int).natAbs) ∨
      ((na = false ∧ nb = false ∧ xs = [] ∧ ys = []) ∧ ((op = 2 ∧ args = []) ∨ (op = 3 ∧ nm = [] ∧ args.length = 1) ∨ ((op = 4 ∨ op = 5 ∨ op = 6 ∨ op = 7) ∧ nm = [] ∧ args.length = 2)))
def plX (na : Bool) (xs : List Nat) (nb : Bool) (ys : List Nat) : Bool := !na && (!nb && (decide (xs.length = 0) && decide (ys.length = 0)))
theorem plX_eq {na nb : Bool} {xs ys : List Nat} (h : plX na xs nb ys = true) : na = false ∧ nb = false ∧ xs = [] ∧ ys = [] := by
  unfold plX at h
  simp only [Bool.and_eq_true, Bool.not_eq_true', decide_eq_true_eq] at h
  exact ⟨h.1, h.2.1, List.eq_nil_of_length_eq_zero h.2.2.1, List.eq_nil_of_length_eq_zero h.2.2.2⟩
set_option maxHeartbeats 8000000 in
theorem ok_shape {op : Int} {na : Bool} {xs : List Nat} {nb : Bool} {ys : List Nat} {nm : List UInt8} {args : List Rx} (hw : Wd xs) (hw' : Wd ys) (h1 : xs.length ≤ 8) (h2 : ys.length ≤ 8) :
    ∃ b, CallOK Tryz.prog 83 [dR (.mk op na xs nb ys nm args)] (.one (dB b)) ∧ (b = true → ShpX (.mk op na xs nb ys nm args)) := by
  obtain ⟨t, d, hdec, hdq⟩ := ok_Decimal (na := na) (nb := nb) hw hw' h1 h2
  obtain ⟨m, hm⟩ := ok_IsName nm
  have main : ∀ b, (op = 1 → b = (d && (decide (nm = []) || m) && decide (args.length = 0))) →
      (op = 2 → b = (plX na xs nb ys && m && decide (args.length = 0))) →
      (op = 3 → b = (plX na xs nb ys && decide (nm = []) && decide (args.length = 1))) →
      (op = 4 ∨ op = 5 ∨ op = 6 ∨ op = 7 → b = (plX na xs nb ys && decide (nm = []) && decide (args.length = 2))) →
      (op ≠ 1 → op ≠ 2 → op ≠ 3 → op ≠ 4 → op ≠ 5 → op ≠ 6 → op ≠ 7 → b = false) →
      CallOK Tryz.prog 83 [dR (.mk op na xs nb ys nm args)] (.one (dB b)) := by
    intro b b1 b2 b3 b4 b0
    show CallOK Tryz.prog _ [.agg (cell7 op na xs nb ys nm args.length (aRs args))] _
    generalize hp : plX na xs nb ys = p at *
    refine callOK_of TT_ok mixT Tryz.func83 rfl rfl (Nat.le_of_ble_eq_true rfl) ?_
    repeat refine r_seq (T := TT) ?_
    refine r_region (T := TT) rfl ?_
    repeat (first | refine r_op rfl rfl rfl rfl ?_ | refine r_skip rfl rfl rfl ?_)
    try refine .done ?_
    refine r_cut ⟨[(1, .box 0 0), (3, .d (dB p))], [(0, some (cell7 op na xs nb ys nm args.length (aRs args)))]⟩ (fun s' hw2 => ?_) (fun R hR _ => ?_)
    · refine r_weak hw2 rfl ?_
      by_cases o1 : op = 1
      · have hb := b1 o1
        clear b1 b2 b3 b4 b0
        subst o1
        repeat (first | refine r_op rfl rfl rfl rfl ?_ | refine r_skip rfl rfl rfl ?_ | refine .done ?_ | refine r_seq (T := TT) ?_ | refine r_region (T := TT) rfl ?_ | refine r_block (T := TT) ?_ | refine r_then (T := TT) rfl ?_ | refine r_else (T := TT) rfl ?_)
        refine r_call (hdec) rfl rfl rfl rfl rfl rfl rfl ?_
        cases d
        · obtain rfl : b = false := by rw [hb]; rfl
          repeat (first | refine r_op rfl rfl rfl rfl ?_ | refine r_skip rfl rfl rfl ?_ | refine .done ?_ | refine r_seq (T := TT) ?_ | refine r_region (T := TT) rfl ?_ | refine r_block (T := TT) ?_ | refine r_then (T := TT) rfl ?_ | refine r_else (T := TT) rfl ?_)
          exact r_fin (T := TT) rfl rfl
        · iterate 1 ((repeat (first | refine r_op rfl rfl rfl rfl ?_ | refine r_skip rfl rfl rfl ?_ | refine .done ?_ | refine r_seq (T := TT) ?_ | refine r_block (T := TT) ?_ | refine r_then (T := TT) rfl ?_ | refine r_else (T := TT) rfl ?_)); refine r_region (T := TT) rfl ?_)
          iterate 4 (first | refine r_op rfl rfl rfl rfl ?_ | refine r_skip rfl rfl rfl ?_)
          by_cases hnm : nm = []
          · refine r_bin rfl rfl rfl rfl rfl rfl rfl (binV_eqT (a := nm) (b := []) hnm) ?_
            iterate 10 (first | refine r_op rfl rfl rfl rfl ?_ | refine r_skip rfl rfl rfl ?_)
            by_cases hl : args.length = 0
            · refine r_eq (v' := .bool true) rfl rfl rfl rfl ?_ ?_
              · exact congrArg Value.bool (decide_eq_true (by omega))
              obtain rfl : b = true := by rw [hb]; simp [hnm, hl]
              repeat (first | refine r_op rfl rfl rfl rfl ?_ | refine r_skip rfl rfl rfl ?_ | refine .done ?_ | refine r_seq (T := TT) ?_ | refine r_region (T := TT) rfl ?_ | refine r_block (T := TT) ?_ | refine r_then (T := TT) rfl ?_ | refine r_else (T := TT) rfl ?_)
              exact r_fin (T := TT) rfl rfl
            · refine r_eq (v' := .bool false) rfl rfl rfl rfl ?_ ?_
              · exact congrArg Value.bool (decide_eq_false (by omega))
              obtain rfl : b = false := by rw [hb, decide_eq_false hl, Bool.and_false]
              repeat (first | refine r_op rfl rfl rfl rfl ?_ | refine r_skip rfl rfl rfl ?_ | refine .done ?_ | refine r_seq (T := TT) ?_ | refine r_region (T := TT) rfl ?_ | refine r_block (T := TT) ?_ | refine r_then (T := TT) rfl ?_ | refine r_else (T := TT) rfl ?_)
              exact r_fin (T := TT) rfl rfl
          · refine r_bin rfl rfl rfl rfl rfl rfl rfl (binV_eqF (a := nm) (b := []) hnm) ?_
            iterate 3 (first | refine r_op rfl rfl rfl rfl ?_ | refine r_skip rfl rfl rfl ?_)
            refine r_call (hm) rfl rfl rfl rfl rfl rfl rfl ?_
            cases m
            · obtain rfl : b = false := by rw [hb]; simp [hnm]
              repeat (first | refine r_op rfl rfl rfl rfl ?_ | refine r_skip rfl rfl rfl ?_ | refine .done ?_ | refine r_seq (T := TT) ?_ | refine r_region (T := TT) rfl ?_ | refine r_block (T := TT) ?_ | refine r_then (T := TT) rfl ?_ | refine r_else (T := TT) rfl ?_)
              exact r_fin (T := TT) rfl rfl
            · iterate 6 (first | refine r_op rfl rfl rfl rfl ?_ | refine r_skip rfl rfl rfl ?_)
              by_cases hl : args.length = 0
              · refine r_eq (v' := .bool true) rfl rfl rfl rfl ?_ ?_
                · exact congrArg Value.bool (decide_eq_true (by omega))
                obtain rfl : b = true := by rw [hb]; simp [hl]
                repeat (first | refine r_op rfl rfl rfl rfl ?_ | refine r_skip rfl rfl rfl ?_ | refine .done ?_ | refine r_seq (T := TT) ?_ | refine r_region (T := TT) rfl ?_ | refine r_block (T := TT) ?_ | refine r_then (T := TT) rfl ?_ | refine r_else (T := TT) rfl ?_)
                exact r_fin (T := TT) rfl rfl
              · refine r_eq (v' := .bool false) rfl rfl rfl rfl ?_ ?_
                · exact congrArg Value.bool (decide_eq_false (by omega))
                obtain rfl : b = false := by rw [hb, decide_eq_false hl, Bool.and_false]
                repeat (first | refine r_op rfl rfl rfl rfl ?_ | refine r_skip rfl rfl rfl ?_ | refine .done ?_ | refine r_seq (T := TT) ?_ | refine r_region (T := TT) rfl ?_ | refine r_block (T := TT) ?_ | refine r_then (T := TT) rfl ?_ | refine r_else (T := TT) rfl ?_)
                exact r_fin (T := TT) rfl rfl
      by_cases o2 : op = 2
      · have hb := b2 o2
        clear b1 b2 b3 b4 b0
        subst o2
        cases p
        · obtain rfl : b = false := by rw [hb]; rfl
          repeat (first | refine r_op rfl rfl rfl rfl ?_ | refine r_skip rfl rfl rfl ?_ | refine .done ?_ | refine r_seq (T := TT) ?_ | refine r_region (T := TT) rfl ?_ | refine r_block (T := TT) ?_ | refine r_then (T := TT) rfl ?_ | refine r_else (T := TT) rfl ?_)
          exact r_fin (T := TT) rfl rfl
        · repeat (first | refine r_op rfl rfl rfl rfl ?_ | refine r_skip rfl rfl rfl ?_ | refine .done ?_ | refine r_seq (T := TT) ?_ | refine r_region (T := TT) rfl ?_ | refine r_block (T := TT) ?_ | refine r_then (T := TT) rfl ?_ | refine r_else (T := TT) rfl ?_)
          refine r_call (hm) rfl rfl rfl rfl rfl rfl rfl ?_
          cases m
          · obtain rfl : b = false := by rw [hb]; rfl
            repeat (first | refine r_op rfl rfl rfl rfl ?_ | refine r_skip rfl rfl rfl ?_ | refine .done ?_ | refine r_seq (T := TT) ?_ | refine r_region (T := TT) rfl ?_ | refine r_block (T := TT) ?_ | refine r_then (T := TT) rfl ?_ | refine r_else (T := TT) rfl ?_)
            exact r_fin (T := TT) rfl rfl
          · iterate 5 (first | refine r_op rfl rfl rfl rfl ?_ | refine r_skip rfl rfl rfl ?_)
            by_cases hl : args.length = 0
            · refine r_eq (v' := .bool true) rfl rfl rfl rfl ?_ ?_
              · exact congrArg Value.bool (decide_eq_true (by omega))
              obtain rfl : b = true := by rw [hb]; simp [hl]
              repeat (first | refine r_op rfl rfl rfl rfl ?_ | refine r_skip rfl rfl rfl ?_ | refine .done ?_ | refine r_seq (T := TT) ?_ | refine r_region (T := TT) rfl ?_ | refine r_block (T := TT) ?_ | refine r_then (T := TT) rfl ?_ | refine r_else (T := TT) rfl ?_)
              exact r_fin (T := TT) rfl rfl
            · refine r_eq (v' := .bool false) rfl rfl rfl rfl ?_ ?_
              · exact congrArg Value.bool (decide_eq_false (by omega))
              obtain rfl : b = false := by rw [hb, decide_eq_false hl, Bool.and_false]
              repeat (first | refine r_op rfl rfl rfl rfl ?_ | refine r_skip rfl rfl rfl ?_ | refine .done ?_ | refine r_seq (T := TT) ?_ | refine r_region (T := TT) rfl ?_ | refine r_block (T := TT) ?_ | refine r_then (T := TT) rfl ?_ | refine r_else (T := TT) rfl ?_)
              exact r_fin (T := TT) rfl rfl
      by_cases o3 : op = 3
      · have hb := b3 o3
        clear b1 b2 b3 b4 b0
        subst o3
        cases p
        · obtain rfl : b = false := by rw [hb]; rfl
          repeat (first | refine r_op rfl rfl rfl rfl ?_ | refine r_skip rfl rfl rfl ?_ | refine .done ?_ | refine r_seq (T := TT) ?_ | refine r_region (T := TT) rfl ?_ | refine r_block (T := TT) ?_ | refine r_then (T := TT) rfl ?_ | refine r_else (T := TT) rfl ?_)
          exact r_fin (T := TT) rfl rfl
        · iterate 4 ((repeat (first | refine r_op rfl rfl rfl rfl ?_ | refine r_skip rfl rfl rfl ?_ | refine .done ?_ | refine r_seq (T := TT) ?_ | refine r_block (T := TT) ?_ | refine r_then (T := TT) rfl ?_ | refine r_else (T := TT) rfl ?_)); refine r_region (T := TT) rfl ?_)
          iterate 4 (first | refine r_op rfl rfl rfl rfl ?_ | refine r_skip rfl rfl rfl ?_)
          by_cases hnm : nm = []
          · refine r_bin rfl rfl rfl rfl rfl rfl rfl (binV_eqT (a := nm) (b := []) hnm) ?_
            iterate 5 (first | refine r_op rfl rfl rfl rfl ?_ | refine r_skip rfl rfl rfl ?_)
            by_cases hl : args.length = 1
            · refine r_eq (v' := .bool true) rfl rfl rfl rfl ?_ ?_
              · exact congrArg Value.bool (decide_eq_true (by omega))
              obtain rfl : b = true := by rw [hb]; simp [hnm, hl]
              repeat (first | refine r_op rfl rfl rfl rfl ?_ | refine r_skip rfl rfl rfl ?_ | refine .done ?_ | refine r_seq (T := TT) ?_ | refine r_region (T := TT) rfl ?_ | refine r_block (T := TT) ?_ | refine r_then (T := TT) rfl ?_ | refine r_else (T := TT) rfl ?_)
              exact r_fin (T := TT) rfl rfl
            · refine r_eq (v' := .bool false) rfl rfl rfl rfl ?_ ?_
              · exact congrArg Value.bool (decide_eq_false (by omega))
              obtain rfl : b = false := by rw [hb, decide_eq_false hl, Bool.and_false]
              repeat (first | refine r_op rfl rfl rfl rfl ?_ | refine r_skip rfl rfl rfl ?_ | refine .done ?_ | refine r_seq (T := TT) ?_ | refine r_region (T := TT) rfl ?_ | refine r_block (T := TT) ?_ | refine r_then (T := TT) rfl ?_ | refine r_else (T := TT) rfl ?_)
              exact r_fin (T := TT) rfl rfl
          · refine r_bin rfl rfl rfl rfl rfl rfl rfl (binV_eqF (a := nm) (b := []) hnm) ?_
            obtain rfl : b = false := by rw [hb]; simp [hnm]
            repeat (first | refine r_op rfl rfl rfl rfl ?_ | refine r_skip rfl rfl rfl ?_ | refine .done ?_ | refine r_seq (T := TT) ?_ | refine r_region (T := TT) rfl ?_ | refine r_block (T := TT) ?_ | refine r_then (T := TT) rfl ?_ | refine r_else (T := TT) rfl ?_)
            exact r_fin (T := TT) rfl rfl
      by_cases o4 : op = 4
      · have hb := b4 (by omega)
        clear b1 b2 b3 b4 b0
        subst o4
        cases p
        · obtain rfl : b = false := by rw [hb]; rfl
          repeat (first | refine r_op rfl rfl rfl rfl ?_ | refine r_skip rfl rfl rfl ?_ | refine .done ?_ | refine r_seq (T := TT) ?_ | refine r_region (T := TT) rfl ?_ | refine r_block (T := TT) ?_ | refine r_then (T := TT) rfl ?_ | refine r_else (T := TT) rfl ?_)
          exact r_fin (T := TT) rfl rfl
        · iterate 5 ((repeat (first | refine r_op rfl rfl rfl rfl ?_ | refine r_skip rfl rfl rfl ?_ | refine .done ?_ | refine r_seq (T := TT) ?_ | refine r_block (T := TT) ?_ | refine r_then (T := TT) rfl ?_ | refine r_else (T := TT) rfl ?_)); refine r_region (T := TT) rfl ?_)
          iterate 4 (first | refine r_op rfl rfl rfl rfl ?_ | refine r_skip rfl rfl rfl ?_)
          by_cases hnm : nm = []
          · refine r_bin rfl rfl rfl rfl rfl rfl rfl (binV_eqT (a := nm) (b := []) hnm) ?_
            iterate 5 (first | refine r_op rfl rfl rfl rfl ?_ | refine r_skip rfl rfl rfl ?_)
            by_cases hl : args.length = 2
            · refine r_eq (v' := .bool true) rfl rfl rfl rfl ?_ ?_
              · exact congrArg Value.bool (decide_eq_true (by omega))
              obtain rfl : b = true := by rw [hb]; simp [hnm, hl]
              repeat (first | refine r_op rfl rfl rfl rfl ?_ | refine r_skip rfl rfl rfl ?_ | refine .done ?_ | refine r_seq (T := TT) ?_ | refine r_region (T := TT) rfl ?_ | refine r_block (T := TT) ?_ | refine r_then (T := TT) rfl ?_ | refine r_else (T := TT) rfl ?_)
              exact r_fin (T := TT) rfl rfl
            · refine r_eq (v' := .bool false) rfl rfl rfl rfl ?_ ?_
              · exact congrArg Value.bool (decide_eq_false (by omega))
              obtain rfl : b = false := by rw [hb, decide_eq_false hl, Bool.and_false]
              repeat (first | refine r_op rfl rfl rfl rfl ?_ | refine r_skip rfl rfl rfl ?_ | refine .done ?_ | refine r_seq (T := TT) ?_ | refine r_region (T := TT) rfl ?_ | refine r_block (T := TT) ?_ | refine r_then (T := TT) rfl ?_ | refine r_else (T := TT) rfl ?_)
              exact r_fin (T := TT) rfl rfl
          · refine r_bin rfl rfl rfl rfl rfl rfl rfl (binV_eqF (a := nm) (b := []) hnm) ?_
            obtain rfl : b = false := by rw [hb]; simp [hnm]
            repeat (first | refine r_op rfl rfl rfl rfl ?_ | refine r_skip rfl rfl rfl ?_ | refine .done ?_ | refine r_seq (T := TT) ?_ | refine r_region (T := TT) rfl ?_ | refine r_block (T := TT) ?_ | refine r_then (T := TT) rfl ?_ | refine r_else (T := TT) rfl ?_)
            exact r_fin (T := TT) rfl rfl
      by_cases o5 : op = 5
      · have hb := b4 (by omega)
        clear b1 b2 b3 b4 b0
        subst o5
        cases p
        · obtain rfl : b = false := by rw [hb]; rfl
          repeat (first | refine r_op rfl rfl rfl rfl ?_ | refine r_skip rfl rfl rfl ?_ | refine .done ?_ | refine r_seq (T := TT) ?_ | refine r_region (T := TT) rfl ?_ | refine r_block (T := TT) ?_ | refine r_then (T := TT) rfl ?_ | refine r_else (T := TT) rfl ?_)
          exact r_fin (T := TT) rfl rfl
        · iterate 6 ((repeat (first | refine r_op rfl rfl rfl rfl ?_ | refine r_skip rfl rfl rfl ?_ | refine .done ?_ | refine r_seq (T := TT) ?_ | refine r_block (T := TT) ?_ | refine r_then (T := TT) rfl ?_ | refine r_else (T := TT) rfl ?_)); refine r_region (T := TT) rfl ?_)
          iterate 4 (first | refine r_op rfl rfl rfl rfl ?_ | refine r_skip rfl rfl rfl ?_)
          by_cases hnm : nm = []
          · refine r_bin rfl rfl rfl rfl rfl rfl rfl (binV_eqT (a := nm) (b := []) hnm) ?_
            iterate 5 (first | refine r_op rfl rfl rfl rfl ?_ | refine r_skip rfl rfl rfl ?_)
            by_cases hl : args.length = 2
            · refine r_eq (v' := .bool true) rfl rfl rfl rfl ?_ ?_
              · exact congrArg Value.bool (decide_eq_true (by omega))
              obtain rfl : b = true := by rw [hb]; simp [hnm, hl]
              repeat (first | refine r_op rfl rfl rfl rfl ?_ | refine r_skip rfl rfl rfl ?_ | refine .done ?_ | refine r_seq (T := TT) ?_ | refine r_region (T := TT) rfl ?_ | refine r_block (T := TT) ?_ | refine r_then (T := TT) rfl ?_ | refine r_else (T := TT) rfl ?_)
              exact r_fin (T := TT) rfl rfl
            · refine r_eq (v' := .bool false) rfl rfl rfl rfl ?_ ?_
              · exact congrArg Value.bool (decide_eq_false (by omega))
              obtain rfl : b = false := by rw [hb, decide_eq_false hl, Bool.and_false]
              repeat (first | refine r_op rfl rfl rfl rfl ?_ | refine r_skip rfl rfl rfl ?_ | refine .done ?_ | refine r_seq (T := TT) ?_ | refine r_region (T := TT) rfl ?_ | refine r_block (T := TT) ?_ | refine r_then (T := TT) rfl ?_ | refine r_else (T := TT) rfl ?_)
              exact r_fin (T := TT) rfl rfl
          · refine r_bin rfl rfl rfl rfl rfl rfl rfl (binV_eqF (a := nm) (b := []) hnm) ?_
            obtain rfl : b = false := by rw [hb]; simp [hnm]
            repeat (first | refine r_op rfl rfl rfl rfl ?_ | refine r_skip rfl rfl rfl ?_ | refine .done ?_ | refine r_seq (T := TT) ?_ | refine r_region (T := TT) rfl ?_ | refine r_block (T := TT) ?_ | refine r_then (T := TT) rfl ?_ | refine r_else (T := TT) rfl ?_)
            exact r_fin (T := TT) rfl rfl
      by_cases o6 : op = 6
      · have hb := b4 (by omega)
        clear b1 b2 b3 b4 b0
        subst o6
        cases p
        · obtain rfl : b = false := by rw [hb]; rfl
          repeat (first | refine r_op rfl rfl rfl rfl ?_ | refine r_skip rfl rfl rfl ?_ | refine .done ?_ | refine r_seq (T := TT) ?_ | refine r_region (T := TT) rfl ?_ | refine r_block (T := TT) ?_ | refine r_then (T := TT) rfl ?_ | refine r_else (T := TT) rfl ?_)
          exact r_fin (T := TT) rfl rfl
        · iterate 7 ((repeat (first | refine r_op rfl rfl rfl rfl ?_ | refine r_skip rfl rfl rfl ?_ | refine .done ?_ | refine r_seq (T := TT) ?_ | refine r_block (T := TT) ?_ | refine r_then (T := TT) rfl ?_ | refine r_else (T := TT) rfl ?_)); refine r_region (T := TT) rfl ?_)
          iterate 4 (first | refine r_op rfl rfl rfl rfl ?_ | refine r_skip rfl rfl rfl ?_)
          by_cases hnm : nm = []
          · refine r_bin rfl rfl rfl rfl rfl rfl rfl (binV_eqT (a := nm) (b := []) hnm) ?_
            iterate 5 (first | refine r_op rfl rfl rfl rfl ?_ | refine r_skip rfl rfl rfl ?_)
            by_cases hl : args.length = 2
            · refine r_eq (v' := .bool true) rfl rfl rfl rfl ?_ ?_
              · exact congrArg Value.bool (decide_eq_true (by omega))
              obtain rfl : b = true := by rw [hb]; simp [hnm, hl]
              repeat (first | refine r_op rfl rfl rfl rfl ?_ | refine r_skip rfl rfl rfl ?_ | refine .done ?_ | refine r_seq (T := TT) ?_ | refine r_region (T := TT) rfl ?_ | refine r_block (T := TT) ?_ | refine r_then (T := TT) rfl ?_ | refine r_else (T := TT) rfl ?_)
              exact r_fin (T := TT) rfl rfl
            · refine r_eq (v' := .bool false) rfl rfl rfl rfl ?_ ?_
              · exact congrArg Value.bool (decide_eq_false (by omega))
              obtain rfl : b = false := by rw [hb, decide_eq_false hl, Bool.and_false]
              repeat (first | refine r_op rfl rfl rfl rfl ?_ | refine r_skip rfl rfl rfl ?_ | refine .done ?_ | refine r_seq (T := TT) ?_ | refine r_region (T := TT) rfl ?_ | refine r_block (T := TT) ?_ | refine r_then (T := TT) rfl ?_ | refine r_else (T := TT) rfl ?_)
              exact r_fin (T := TT) rfl rfl
          · refine r_bin rfl rfl rfl rfl rfl rfl rfl (binV_eqF (a := nm) (b := []) hnm) ?_
            obtain rfl : b = false := by rw [hb]; simp [hnm]
            repeat (first | refine r_op rfl rfl rfl rfl ?_ | refine r_skip rfl rfl rfl ?_ | refine .done ?_ | refine r_seq (T := TT) ?_ | refine r_region (T := TT) rfl ?_ | refine r_block (T := TT) ?_ | refine r_then (T := TT) rfl ?_ | refine r_else (T := TT) rfl ?_)
            exact r_fin (T := TT) rfl rfl
      by_cases o7 : op = 7
      · have hb := b4 (by omega)
        clear b1 b2 b3 b4 b0
        subst o7
        cases p
        · obtain rfl : b = false := by rw [hb]; rfl
          repeat (first | refine r_op rfl rfl rfl rfl ?_ | refine r_skip rfl rfl rfl ?_ | refine .done ?_ | refine r_seq (T := TT) ?_ | refine r_region (T := TT) rfl ?_ | refine r_block (T := TT) ?_ | refine r_then (T := TT) rfl ?_ | refine r_else (T := TT) rfl ?_)
          exact r_fin (T := TT) rfl rfl
        · iterate 8 ((repeat (first | refine r_op rfl rfl rfl rfl ?_ | refine r_skip rfl rfl rfl ?_ | refine .done ?_ | refine r_seq (T := TT) ?_ | refine r_block (T := TT) ?_ | refine r_then (T := TT) rfl ?_ | refine r_else (T := TT) rfl ?_)); refine r_region (T := TT) rfl ?_)
          iterate 4 (first | refine r_op rfl rfl rfl rfl ?_ | refine r_skip rfl rfl rfl ?_)
          by_cases hnm : nm = []
          · refine r_bin rfl rfl rfl rfl rfl rfl rfl (binV_eqT (a := nm) (b := []) hnm) ?_
            iterate 5 (first | refine r_op rfl rfl rfl rfl ?_ | refine r_skip rfl rfl rfl ?_)
            by_cases hl : args.length = 2
            · refine r_eq (v' := .bool true) rfl rfl rfl rfl ?_ ?_
              · exact congrArg Value.bool (decide_eq_true (by omega))
              obtain rfl : b = true := by rw [hb]; simp [hnm, hl]
              repeat (first | refine r_op rfl rfl rfl rfl ?_ | refine r_skip rfl rfl rfl ?_ | refine .done ?_ | refine r_seq (T := TT) ?_ | refine r_region (T := TT) rfl ?_ | refine r_block (T := TT) ?_ | refine r_then (T := TT) rfl ?_ | refine r_else (T := TT) rfl ?_)
              exact r_fin (T := TT) rfl rfl
            · refine r_eq (v' := .bool false) rfl rfl rfl rfl ?_ ?_
              · exact congrArg Value.bool (decide_eq_false (by omega))
              obtain rfl : b = false := by rw [hb, decide_eq_false hl, Bool.and_false]
              repeat (first | refine r_op rfl rfl rfl rfl ?_ | refine r_skip rfl rfl rfl ?_ | refine .done ?_ | refine r_seq (T := TT) ?_ | refine r_region (T := TT) rfl ?_ | refine r_block (T := TT) ?_ | refine r_then (T := TT) rfl ?_ | refine r_else (T := TT) rfl ?_)
              exact r_fin (T := TT) rfl rfl
          · refine r_bin rfl rfl rfl rfl rfl rfl rfl (binV_eqF (a := nm) (b := []) hnm) ?_
            obtain rfl : b = false := by rw [hb]; simp [hnm]
            repeat (first | refine r_op rfl rfl rfl rfl ?_ | refine r_skip rfl rfl rfl ?_ | refine .done ?_ | refine r_seq (T := TT) ?_ | refine r_region (T := TT) rfl ?_ | refine r_block (T := TT) ?_ | refine r_then (T := TT) rfl ?_ | refine r_else (T := TT) rfl ?_)
            exact r_fin (T := TT) rfl rfl
      obtain rfl : b = false := b0 o1 o2 o3 o4 o5 o6 o7
      iterate 1 ((repeat (first | refine r_op rfl rfl rfl rfl ?_ | refine r_skip rfl rfl rfl ?_ | refine .done ?_ | refine r_seq (T := TT) ?_ | refine r_block (T := TT) ?_ | refine r_then (T := TT) rfl ?_ | refine r_else (T := TT) rfl ?_)); refine r_region (T := TT) rfl ?_)
      refine r_eq (v' := .bool false) rfl rfl rfl rfl ?_ ?_
      · exact congrArg Value.bool (decide_eq_false o1)
      iterate 1 ((repeat (first | refine r_op rfl rfl rfl rfl ?_ | refine r_skip rfl rfl rfl ?_ | refine .done ?_ | refine r_seq (T := TT) ?_ | refine r_block (T := TT) ?_ | refine r_then (T := TT) rfl ?_ | refine r_else (T := TT) rfl ?_)); refine r_region (T := TT) rfl ?_)
      refine r_eq (v' := .bool false) rfl rfl rfl rfl ?_ ?_
      · exact congrArg Value.bool (decide_eq_false o2)
      iterate 1 ((repeat (first | refine r_op rfl rfl rfl rfl ?_ | refine r_skip rfl rfl rfl ?_ | refine .done ?_ | refine r_seq (T := TT) ?_ | refine r_block (T := TT) ?_ | refine r_then (T := TT) rfl ?_ | refine r_else (T := TT) rfl ?_)); refine r_region (T := TT) rfl ?_)
      refine r_eq (v' := .bool false) rfl rfl rfl rfl ?_ ?_
      · exact congrArg Value.bool (decide_eq_false o3)
      iterate 1 ((repeat (first | refine r_op rfl rfl rfl rfl ?_ | refine r_skip rfl rfl rfl ?_ | refine .done ?_ | refine r_seq (T := TT) ?_ | refine r_block (T := TT) ?_ | refine r_then (T := TT) rfl ?_ | refine r_else (T := TT) rfl ?_)); refine r_region (T := TT) rfl ?_)
      refine r_eq (v' := .bool false) rfl rfl rfl rfl ?_ ?_
      · exact congrArg Value.bool (decide_eq_false o4)
      iterate 1 ((repeat (first | refine r_op rfl rfl rfl rfl ?_ | refine r_skip rfl rfl rfl ?_ | refine .done ?_ | refine r_seq (T := TT) ?_ | refine r_block (T := TT) ?_ | refine r_then (T := TT) rfl ?_ | refine r_else (T := TT) rfl ?_)); refine r_region (T := TT) rfl ?_)
      refine r_eq (v' := .bool false) rfl rfl rfl rfl ?_ ?_
      · exact congrArg Value.bool (decide_eq_false o5)
      iterate 1 ((repeat (first | refine r_op rfl rfl rfl rfl ?_ | refine r_skip rfl rfl rfl ?_ | refine .done ?_ | refine r_seq (T := TT) ?_ | refine r_block (T := TT) ?_ | refine r_then (T := TT) rfl ?_ | refine r_else (T := TT) rfl ?_)); refine r_region (T := TT) rfl ?_)
      refine r_eq (v' := .bool false) rfl rfl rfl rfl ?_ ?_
      · exact congrArg Value.bool (decide_eq_false o6)
      iterate 1 ((repeat (first | refine r_op rfl rfl rfl rfl ?_ | refine r_skip rfl rfl rfl ?_ | refine .done ?_ | refine r_seq (T := TT) ?_ | refine r_block (T := TT) ?_ | refine r_then (T := TT) rfl ?_ | refine r_else (T := TT) rfl ?_)); refine r_region (T := TT) rfl ?_)
      refine r_eq (v' := .bool false) rfl rfl rfl rfl ?_ ?_
      · exact congrArg Value.bool (decide_eq_false o7)
      repeat (first | refine r_op rfl rfl rfl rfl ?_ | refine r_skip rfl rfl rfl ?_ | refine .done ?_ | refine r_seq (T := TT) ?_ | refine r_region (T := TT) rfl ?_ | refine r_block (T := TT) ?_ | refine r_then (T := TT) rfl ?_ | refine r_else (T := TT) rfl ?_)
      exact r_fin (T := TT) rfl rfl
    · clear b1 b2 b3 b4 b0
      subst hp
      cases na
      · cases nb
        · iterate 1 ((repeat (first | refine r_op rfl rfl rfl rfl ?_ | refine r_skip rfl rfl rfl ?_ | refine .done ?_ | refine r_seq (T := TT) ?_ | refine r_block (T := TT) ?_ | refine r_then (T := TT) rfl ?_ | refine r_else (T := TT) rfl ?_)); refine r_region (T := TT) rfl ?_)
          iterate 18 (first | refine r_op rfl rfl rfl rfl ?_ | refine r_skip rfl rfl rfl ?_)
          by_cases l1 : xs.length = 0
          · refine r_eq (v' := .bool true) rfl rfl rfl rfl ?_ ?_
            · exact congrArg Value.bool (decide_eq_true (by omega))
            iterate 7 (first | refine r_op rfl rfl rfl rfl ?_ | refine r_skip rfl rfl rfl ?_)
            by_cases l2 : ys.length = 0
            · refine r_eq (v' := .bool true) rfl rfl rfl rfl ?_ ?_
              · exact congrArg Value.bool (decide_eq_true (by omega))
              repeat (first | refine r_op rfl rfl rfl rfl ?_ | refine r_skip rfl rfl rfl ?_ | refine .done ?_ | refine r_seq (T := TT) ?_ | refine r_region (T := TT) rfl ?_ | refine r_block (T := TT) ?_ | refine r_then (T := TT) rfl ?_ | refine r_else (T := TT) rfl ?_)
              rw [show plX false xs false ys = true by unfold plX; rw [decide_eq_true l1, decide_eq_true l2]; rfl] at hR
              exact hR _ (weak ⟨rfl, rfl, trivial⟩ ⟨rfl, trivial⟩ rfl)
            · refine r_eq (v' := .bool false) rfl rfl rfl rfl ?_ ?_
              · exact congrArg Value.bool (decide_eq_false (by omega))
              repeat (first | refine r_op rfl rfl rfl rfl ?_ | refine r_skip rfl rfl rfl ?_ | refine .done ?_ | refine r_seq (T := TT) ?_ | refine r_region (T := TT) rfl ?_ | refine r_block (T := TT) ?_ | refine r_then (T := TT) rfl ?_ | refine r_else (T := TT) rfl ?_)
              rw [show plX false xs false ys = false by unfold plX; rw [decide_eq_true l1, decide_eq_false l2]; rfl] at hR
              exact hR _ (weak ⟨rfl, rfl, trivial⟩ ⟨rfl, trivial⟩ rfl)
          · refine r_eq (v' := .bool false) rfl rfl rfl rfl ?_ ?_
            · exact congrArg Value.bool (decide_eq_false (by omega))
            repeat (first | refine r_op rfl rfl rfl rfl ?_ | refine r_skip rfl rfl rfl ?_ | refine .done ?_ | refine r_seq (T := TT) ?_ | refine r_region (T := TT) rfl ?_ | refine r_block (T := TT) ?_ | refine r_then (T := TT) rfl ?_ | refine r_else (T := TT) rfl ?_)
            rw [show plX false xs false ys = false by unfold plX; rw [decide_eq_false l1]; rfl] at hR
            exact hR _ (weak ⟨rfl, rfl, trivial⟩ ⟨rfl, trivial⟩ rfl)
        · repeat (first | refine r_op rfl rfl rfl rfl ?_ | refine r_skip rfl rfl rfl ?_ | refine .done ?_ | refine r_seq (T := TT) ?_ | refine r_region (T := TT) rfl ?_ | refine r_block (T := TT) ?_ | refine r_then (T := TT) rfl ?_ | refine r_else (T := TT) rfl ?_)
          exact hR _ (weak ⟨rfl, rfl, trivial⟩ ⟨rfl, trivial⟩ rfl)
      · repeat (first | refine r_op rfl rfl rfl rfl ?_ | refine r_skip rfl rfl rfl ?_ | refine .done ?_ | refine r_seq (T := TT) ?_ | refine r_region (T := TT) rfl ?_ | refine r_block (T := TT) ?_ | refine r_then (T := TT) rfl ?_ | refine r_else (T := TT) rfl ?_)
        exact hR _ (weak ⟨rfl, rfl, trivial⟩ ⟨rfl, trivial⟩ rfl)
  have fin : ∀ c : Bool, (c = true → ShpX (.mk op na xs nb ys nm args)) → (op = 1 → c = (d && (decide (nm = []) || m) && decide (args.length = 0))) →
      (op = 2 → c = (plX na xs nb ys && m && decide (args.length = 0))) →
      (op = 3 → c = (plX na xs nb ys && decide (nm = []) && decide (args.length = 1))) →
      (op = 4 ∨ op = 5 ∨ op = 6 ∨ op = 7 → c = (plX na xs nb ys && decide (nm = []) && decide (args.length = 2))) →
      (op ≠ 1 → op ≠ 2 → op ≠ 3 → op ≠ 4 → op ≠ 5 → op ≠ 6 → op ≠ 7 → c = false) → ∃ b, CallOK Tryz.prog 83 [dR (.mk op na xs nb ys nm args)] (.one (dB b)) ∧ (b = true → ShpX (.mk op na xs nb ys nm args)) :=
    fun c hc a1 a2 a3 a4 a0 => ⟨c, main c a1 a2 a3 a4 a0, hc⟩
  by_cases o1 : op = 1
  · exact fin (d && (decide (nm = []) || m) && decide (args.length = 0)) (fun h => by
      simp only [Bool.and_eq_true, decide_eq_true_eq] at h
      exact .inl ⟨o1, List.eq_nil_of_length_eq_zero h.2, hdq h.1.1⟩) (fun _ => rfl) (fun h => by omega) (fun h => by omega) (fun h => by omega) (fun h => by omega)
  by_cases o2 : op = 2
  · exact fin (plX na xs nb ys && m && decide (args.length = 0)) (fun h => by
      simp only [Bool.and_eq_true, decide_eq_true_eq] at h
      exact .inr ⟨plX_eq h.1.1, .inl ⟨o2, List.eq_nil_of_length_eq_zero h.2⟩⟩) (fun h => by omega) (fun _ => rfl) (fun h => by omega) (fun h => by omega) (fun h => by omega)
  by_cases o3 : op = 3
  · exact fin (plX na xs nb ys && decide (nm = []) && decide (args.length = 1)) (fun h => by
      simp only [Bool.and_eq_true, decide_eq_true_eq] at h
      exact .inr ⟨plX_eq h.1.1, .inr (.inl ⟨o3, h.1.2, h.2⟩)⟩) (fun h => by omega) (fun h => by omega) (fun _ => rfl) (fun h => by omega) (fun _ _ h => absurd o3 h)
  by_cases o4 : op = 4 ∨ op = 5 ∨ op = 6 ∨ op = 7
  · exact fin (plX na xs nb ys && decide (nm = []) && decide (args.length = 2)) (fun h => by
      simp only [Bool.and_eq_true, decide_eq_true_eq] at h
      exact .inr ⟨plX_eq h.1.1, .inr (.inr ⟨o4, h.1.2, h.2⟩)⟩) (fun h => by omega) (fun h => by omega) (fun h => by omega) (fun _ => rfl) (fun _ _ _ => by omega)
  · exact fin false (fun h => by cases h) (fun h => by omega) (fun h => by omega) (fun h => by omega) (fun h => by omega) (fun _ _ _ _ _ _ _ => rfl)
end Go.Proofs.YtmpadildchphgaaGreatDoor
namespace Go.Proofs.YtmpadildchphgaaGreatDoor
open Go.RowKit
set_option maxHeartbeats 1000000 in
theorem ok_Formed : ∀ (x : Rx), WdX x → ltX x = true → ∃ b, CallOK Tryz.prog 54 [dR x] (.one (dB b)) ∧ (b = true → ∃ e, x = rx e ∧ okE e) := by
  refine rx_ind fun op na xs nb ys nm args ih hx hlt => ?_
  obtain ⟨_, _, hw, hw', _, hlen, hargs⟩ := hx
  rw [ltX, Bool.and_eq_true, Bool.and_eq_true, Bool.and_eq_true, decide_eq_true_eq, decide_eq_true_eq] at hlt
  obtain ⟨hla, ⟨l1, l2⟩, _⟩ := hlt
  obtain ⟨s0, hsh, hS⟩ := ok_shape (op := op) (na := na) (xs := xs) (nb := nb) (ys := ys) (nm := nm) (args := args) hw hw' l1 l2
  have hsh : CallOK Tryz.prog 83 [.agg (cell7 op na xs nb ys nm args.length (aRs args))] (.one (dB s0)) := hsh
  cases s0 with
  | false =>
    refine ⟨false, ?_, fun h => by cases h⟩
    show CallOK Tryz.prog _ [.agg (cell7 op na xs nb ys nm args.length (aRs args))] _
    refine callOK_of TT_ok mixT Tryz.func54 rfl rfl (Nat.le_of_ble_eq_true rfl) ?_
    repeat (first | refine r_op rfl rfl rfl rfl ?_ | refine r_skip rfl rfl rfl ?_ | refine .done ?_ | refine r_seq (T := TT) ?_ | refine r_region (T := TT) rfl ?_ | refine r_block (T := TT) ?_ | refine r_then (T := TT) rfl ?_ | refine r_else (T := TT) rfl ?_)
    refine r_call (hsh) rfl rfl rfl rfl rfl rfl rfl ?_
    repeat (first | refine r_op rfl rfl rfl rfl ?_ | refine r_skip rfl rfl rfl ?_ | refine .done ?_ | refine r_seq (T := TT) ?_ | refine r_region (T := TT) rfl ?_ | refine r_block (T := TT) ?_ | refine r_then (T := TT) rfl ?_ | refine r_else (T := TT) rfl ?_)
    exact r_fin (T := TT) rfl rfl
  | true =>
    have hex : ∀ y : Rx, ∃ b, y ∈ args → CallOK Tryz.prog 54 [dR y] (.one (dB b)) ∧ (b = true → ∃ e, y = rx e ∧ okE e) := fun y => by
      by_cases hy : y ∈ args
      · obtain ⟨b, h⟩ := ih y hy (hargs y hy) (ltXs_mem hla y hy)
        exact ⟨b, fun _ => h⟩
      · exact ⟨false, fun h => absurd h hy⟩
    obtain ⟨f, hf⟩ := Classical.axiomOfChoice hex
    refine ⟨args.all f, ?_, fun h => ?_⟩
    · show CallOK Tryz.prog _ [.agg (cell7 op na xs nb ys nm args.length (aRs args))] _
      refine callOK_of TT_ok mixT Tryz.func54 rfl rfl (Nat.le_of_ble_eq_true rfl) ?_
      repeat (first | refine r_op rfl rfl rfl rfl ?_ | refine r_skip rfl rfl rfl ?_ | refine .done ?_ | refine r_seq (T := TT) ?_ | refine r_region (T := TT) rfl ?_ | refine r_block (T := TT) ?_ | refine r_then (T := TT) rfl ?_ | refine r_else (T := TT) rfl ?_)
      refine r_call (hsh) rfl rfl rfl rfl rfl rfl rfl ?_
      repeat (first | refine r_op rfl rfl rfl rfl ?_ | refine r_skip rfl rfl rfl ?_ | refine .done ?_ | refine r_seq (T := TT) ?_ | refine r_region (T := TT) rfl ?_ | refine r_block (T := TT) ?_ | refine r_then (T := TT) rfl ?_ | refine r_else (T := TT) rfl ?_)
      refine r_loop Nat (fun i => i ≤ args.length ∧ ∀ (q : Nat) y, q < i → args[q]? = some y → f y = true) (fun i => ⟨[(1, .box 0 0), (2, .d (dB false)), (3, .d (dN .i64 i))], [(0, some (cell7 op na xs nb ys nm args.length (aRs args)))]⟩) (fun i => args.length - i) 0 ⟨Nat.zero_le _, fun q y h => absurd h (Nat.not_lt_zero _)⟩
        (weak ⟨rfl, rfl, rfl, trivial⟩ ⟨rfl, trivial⟩ rfl) ?_
      rintro i ⟨hi, hq⟩
      repeat refine r_seq (T := TT) ?_
      refine r_region (T := TT) rfl ?_
      iterate 4 (first | refine r_op rfl rfl rfl rfl ?_ | refine r_skip rfl rfl rfl ?_)
      by_cases hlt : i < args.length
      · refine r_eq (v' := .bool true) rfl rfl rfl rfl ?_ ?_
        · exact congrArg Value.bool (decide_eq_true (by omega))
        obtain ⟨o1, na1, xs1, nb1, ys1, nm1, n1, cs1, hA⟩ := aR_form args[i]
        have hx : args[i]? = some args[i] := by simp [hlt]
        have hat : ∀ (j : Nat) (a : AV), (cell7 o1 na1 xs1 nb1 ys1 nm1 n1 cs1)[j]? = some a → (aRs args)[i * 7 + j]? = some a := fun j a h => aRs_at args i args[i] hx j a (by rw [hA]; exact h)
        have c := (hf args[i] (List.getElem_mem hlt)).1
        rw [show dR args[i] = .agg (cell7 o1 na1 xs1 nb1 ys1 nm1 n1 cs1) from congrArg DV.agg hA] at c
        repeat (first | refine r_op rfl rfl rfl rfl ?_ | refine r_skip rfl rfl rfl ?_ | refine .done ?_ | refine r_seq (T := TT) ?_ | refine r_region (T := TT) rfl ?_ | refine r_block (T := TT) ?_ | refine r_then (T := TT) rfl ?_ | refine r_else (T := TT) rfl ?_)
        refine r_idx (i := i) (cs' := cell7 o1 na1 xs1 nb1 ys1 nm1 n1 cs1) hlt hat (Nat.zero_lt_succ 6) rfl rfl rfl rfl rfl rfl rfl rfl ?_
        iterate 1 (first | refine r_op rfl rfl rfl rfl ?_ | refine r_skip rfl rfl rfl ?_)
        cases hb : f args[i]
        · rw [hb] at c
          refine r_call (c) rfl rfl rfl rfl rfl rfl rfl ?_
          repeat (first | refine r_op rfl rfl rfl rfl ?_ | refine r_skip rfl rfl rfl ?_ | refine .done ?_ | refine r_seq (T := TT) ?_ | refine r_region (T := TT) rfl ?_ | refine r_block (T := TT) ?_ | refine r_then (T := TT) rfl ?_ | refine r_else (T := TT) rfl ?_)
          rw [show args.all f = false by
            cases h : args.all f
            · rfl
            · rw [List.all_eq_true.1 h _ (List.getElem_mem hlt)] at hb; cases hb]
          exact r_fin (T := TT) rfl rfl
        · rw [hb] at c
          refine r_call (c) rfl rfl rfl rfl rfl rfl rfl ?_
          repeat (first | refine r_op rfl rfl rfl rfl ?_ | refine r_skip rfl rfl rfl ?_ | refine .done ?_ | refine r_seq (T := TT) ?_ | refine r_region (T := TT) rfl ?_ | refine r_block (T := TT) ?_ | refine r_then (T := TT) rfl ?_ | refine r_else (T := TT) rfl ?_)
          exact ⟨i + 1, ⟨hlt, fun q y h1 h2 => by
            by_cases e : q = i
            · subst e; rw [hx] at h2; cases h2; exact hb
            · exact hq q y (by omega) h2⟩, by omega, weak ⟨rfl, rfl, tv_i64 (by omega) (by omega), trivial⟩ ⟨rfl, trivial⟩ rfl⟩
      · refine r_eq (v' := .bool false) rfl rfl rfl rfl ?_ ?_
        · exact congrArg Value.bool (decide_eq_false (by omega))
        repeat (first | refine r_op rfl rfl rfl rfl ?_ | refine r_skip rfl rfl rfl ?_ | refine .done ?_ | refine r_seq (T := TT) ?_ | refine r_region (T := TT) rfl ?_ | refine r_block (T := TT) ?_ | refine r_then (T := TT) rfl ?_ | refine r_else (T := TT) rfl ?_)
        rw [show args.all f = true by
          rw [List.all_eq_true]
          intro y hy
          obtain ⟨q, h⟩ := List.getElem?_of_mem hy
          exact hq q y (by have := (List.getElem?_eq_some_iff.1 h).1; omega) h]
        exact r_fin (T := TT) rfl rfl
    · have hall : ∀ y ∈ args, ∃ e, y = rx e ∧ okE e := fun y hy => (hf y hy).2 (List.all_eq_true.1 h y hy)
      rcases hS rfl with ⟨rfl, rfl, q, e, sq, e1, e2⟩ | ⟨⟨rfl, rfl, rfl, rfl⟩, h3⟩
      · have e3 : na = decide (q.num < 0) := by
          have := congrArg (fun l : List AV => l[0]?) e
          injection this with this
          injection this with this
          injection this
        have e4 : nb = decide ((q.den : Int) < 0) := by
          have := congrArg (fun l : List AV => l[2]?) e
          injection this with this
          injection this with this
          injection this
        subst e3 e4 e1 e2
        exact ⟨.num q nm, rfl, sq⟩
      · rcases h3 with ⟨rfl, rfl⟩ | ⟨rfl, rfl, hl⟩ | ⟨ho, rfl, hl⟩
        · exact ⟨.nam nm, rfl, trivial⟩
        · match args, hl, hall with
          | [a], _, hall =>
            obtain ⟨ea, rfl, oa⟩ := hall a (by simp)
            exact ⟨.neg ea, rfl, oa⟩
        · match args, hl, hall with
          | [a, b], _, hall =>
            obtain ⟨ea, rfl, oa⟩ := hall a (by simp)
            obtain ⟨eb, rfl, ob⟩ := hall b (by simp)
            rcases ho with rfl | rfl | rfl | rfl
            · exact ⟨.bin .add ea eb, rfl, oa, ob⟩
            · exact ⟨.bin .sub ea eb, rfl, oa, ob⟩
            · exact ⟨.bin .mul ea eb, rfl, oa, ob⟩
            · exact ⟨.bin .div ea eb, rfl, oa, ob⟩
theorem ok_r22_Valid (x : Rx) (hx : WdX x) (hl : ltX x = true) (hs : szX x ≤ 1000000) : ∃ v : Int, CallOK Tryz.prog 21 [dR x] (.one (dN .i64 v)) ∧ (v = 0 → ∃ e, x = rx e ∧ okE e ∧ dpX x ≤ 40) := by
  obtain ⟨b, c1, h1⟩ := ok_Formed x hx hl
  have c2 := ok_Depth x hx hs
  obtain ⟨o1, na1, xs1, nb1, ys1, nm1, n1, cs1, hA⟩ := aR_form x
  rw [show dR x = .agg (cell7 o1 na1 xs1 nb1 ys1 nm1 n1 cs1) from congrArg DV.agg hA] at c1 c2 ⊢
  cases b with
  | false =>
    refine ⟨1, ?_, fun h => by cases h⟩
    refine callOK_of TT_ok mixT Tryz.func21 rfl rfl (Nat.le_of_ble_eq_true rfl) ?_
    repeat (first | refine r_op rfl rfl rfl rfl ?_ | refine r_skip rfl rfl rfl ?_ | refine .done ?_ | refine r_seq (T := TT) ?_ | refine r_region (T := TT) rfl ?_ | refine r_block (T := TT) ?_ | refine r_then (T := TT) rfl ?_ | refine r_else (T := TT) rfl ?_)
    refine r_call (c1) rfl rfl rfl rfl rfl rfl rfl ?_
    repeat (first | refine r_op rfl rfl rfl rfl ?_ | refine r_skip rfl rfl rfl ?_ | refine .done ?_ | refine r_seq (T := TT) ?_ | refine r_region (T := TT) rfl ?_ | refine r_block (T := TT) ?_ | refine r_then (T := TT) rfl ?_ | refine r_else (T := TT) rfl ?_)
    exact r_fin (T := TT) rfl rfl
  | true =>
    obtain ⟨e, e1, e2⟩ := h1 rfl
    by_cases hd : dpX x ≤ 40
    · refine ⟨0, ?_, fun _ => ⟨e, e1, e2, hd⟩⟩
      refine callOK_of TT_ok mixT Tryz.func21 rfl rfl (Nat.le_of_ble_eq_true rfl) ?_
      repeat (first | refine r_op rfl rfl rfl rfl ?_ | refine r_skip rfl rfl rfl ?_ | refine .done ?_ | refine r_seq (T := TT) ?_ | refine r_region (T := TT) rfl ?_ | refine r_block (T := TT) ?_ | refine r_then (T := TT) rfl ?_ | refine r_else (T := TT) rfl ?_)
      refine r_call (c1) rfl rfl rfl rfl rfl rfl rfl ?_
      repeat (first | refine r_op rfl rfl rfl rfl ?_ | refine r_skip rfl rfl rfl ?_ | refine .done ?_ | refine r_seq (T := TT) ?_ | refine r_region (T := TT) rfl ?_ | refine r_block (T := TT) ?_ | refine r_then (T := TT) rfl ?_ | refine r_else (T := TT) rfl ?_)
      refine r_call (c2) rfl rfl rfl rfl rfl rfl rfl ?_
      refine r_eq (v' := .bool false) rfl rfl rfl rfl ?_ ?_
      · exact congrArg Value.bool (decide_eq_false (by omega))
      repeat (first | refine r_op rfl rfl rfl rfl ?_ | refine r_skip rfl rfl rfl ?_ | refine .done ?_ | refine r_seq (T := TT) ?_ | refine r_region (T := TT) rfl ?_ | refine r_block (T := TT) ?_ | refine r_then (T := TT) rfl ?_ | refine r_else (T := TT) rfl ?_)
      exact r_fin (T := TT) rfl rfl
    · refine ⟨3, ?_, fun h => by cases h⟩
      refine callOK_of TT_ok mixT Tryz.func21 rfl rfl (Nat.le_of_ble_eq_true rfl) ?_
      repeat (first | refine r_op rfl rfl rfl rfl ?_ | refine r_skip rfl rfl rfl ?_ | refine .done ?_ | refine r_seq (T := TT) ?_ | refine r_region (T := TT) rfl ?_ | refine r_block (T := TT) ?_ | refine r_then (T := TT) rfl ?_ | refine r_else (T := TT) rfl ?_)
      refine r_call (c1) rfl rfl rfl rfl rfl rfl rfl ?_
      repeat (first | refine r_op rfl rfl rfl rfl ?_ | refine r_skip rfl rfl rfl ?_ | refine .done ?_ | refine r_seq (T := TT) ?_ | refine r_region (T := TT) rfl ?_ | refine r_block (T := TT) ?_ | refine r_then (T := TT) rfl ?_ | refine r_else (T := TT) rfl ?_)
      refine r_call (c2) rfl rfl rfl rfl rfl rfl rfl ?_
      refine r_eq (v' := .bool true) rfl rfl rfl rfl ?_ ?_
      · exact congrArg Value.bool (decide_eq_true (by omega))
      repeat (first | refine r_op rfl rfl rfl rfl ?_ | refine r_skip rfl rfl rfl ?_ | refine .done ?_ | refine r_seq (T := TT) ?_ | refine r_region (T := TT) rfl ?_ | refine r_block (T := TT) ?_ | refine r_then (T := TT) rfl ?_ | refine r_else (T := TT) rfl ?_)
      exact r_fin (T := TT) rfl rfl
theorem wt_sz : ∀ e : Ex, wtE e ≤ 400 * szX (rx e)
  | .num _ _ => by simp [rx, szX, szXs, wtE]
  | .nam _ => by simp [rx, szX, szXs, wtE]
  | .neg a => by
    have := wt_sz a
    simp only [rx, szX, szXs, wtE]
    omega
  | .bin k a b => by
    have := wt_sz a
    have := wt_sz b
    simp only [rx, szX, szXs, wtE]
    omega
end Go.Proofs.YtmpadildchphgaaGreatDoor
namespace Go.Proofs.YtmpadildchphgaaGreatDoor
open Go.ChangeShapes Go.WideShapes Go.ChangeAt Go.RowKit Go.Joins
def exprL : List TypeId := [38, 26, 24, 4, 22, 92, 3, 9, 36]
theorem exprL_ok : plainB Tryz.prog exprL = true := by kernel_rfl
set_option maxRecDepth 100000 in
theorem open_expr {H : Type} {enc : TypeId × Value → H} {W : World} {r : Reach} {b0 : Nat} {v : Value} {d : DataW H} {p : List MemPlace} (hv : Value.okWide Tryz.prog W r b0 38 v) (h : DataW.Trod enc Tryz.prog W 0 (fun _ => true) true 38 v d p) :
    ∃ x, DV.M (fun _ => False) W (dR x) v ∧ WdX x := by
  obtain ⟨n, cs, h1, h2⟩ := open_struct exprL_ok (by decide) Tryz.underlying38 hv h
  obtain ⟨x, rfl, h3⟩ := sh_expr n cs h2
  exact ⟨x, h1, h3⟩
end Go.Proofs.YtmpadildchphgaaGreatDoor
namespace Go.Proofs.YtmpadildchphgaaGreatDoor
open Go.RowKit
def subE (s : List UInt8) (b : Ex) : Ex → Ex
  | .num v u => .num v u
  | .nam t => if t = s then b else .nam t
  | .neg a => .neg (subE s b a)
  | .bin k a a' => .bin k (subE s b a) (subE s b a')
theorem okE_sub {s : List UInt8} {b : Ex} (hb : okE b) : ∀ {e : Ex}, okE e → okE (subE s b e)
  | .num _ _, h => h
  | .nam t, _ => by
    rw [subE]
    split
    · exact hb
    · trivial
  | .neg a, h => okE_sub (e := a) hb h
  | .bin _ a a', h => ⟨okE_sub (e := a) hb h.1, okE_sub (e := a') hb h.2⟩
theorem sz_sub {s : List UInt8} {b : Ex} : ∀ e : Ex, szX (rx (subE s b e)) ≤ szX (rx e) * szX (rx b)
  | .num v u => by
    have := (rx b)
    have h1 : 1 ≤ szX (rx b) := by obtain ⟨op, na, xs, nb, ys, nm, args⟩ := rx b; rw [szX]; omega
    simpa [subE, rx, szX, szXs] using h1
  | .nam t => by
    have h1 : 1 ≤ szX (rx b) := by obtain ⟨op, na, xs, nb, ys, nm, args⟩ := rx b; rw [szX]; omega
    rw [subE]
    split
    · simp [rx, szX, szXs]
    · simpa [rx, szX, szXs] using h1
  | .neg a => by
    have h1 : 1 ≤ szX (rx b) := by obtain ⟨op, na, xs, nb, ys, nm, args⟩ := rx b; rw [szX]; omega
    have h2 := sz_sub (s := s) (b := b) a
    simp only [subE, rx, szX, szXs, Nat.add_zero]
    rw [Nat.add_mul]
    omega
  | .bin k a a' => by
    have h1 : 1 ≤ szX (rx b) := by obtain ⟨op, na, xs, nb, ys, nm, args⟩ := rx b; rw [szX]; omega
    have h2 := sz_sub (s := s) (b := b) a
    have h3 := sz_sub (s := s) (b := b) a'
    simp only [subE, rx, szX, szXs, Nat.add_zero]
    rw [Nat.add_mul, Nat.add_mul]
    omega
theorem ev_sub {s : List UInt8} {b : Ex} {x : Rat × Int} (hb : evE (envF []) b = .ok x) : ∀ e : Ex, evE (envF [(s, x)]) e = evE (envF []) (subE s b e)
  | .num v u => rfl
  | .nam t => by
    rw [subE]
    by_cases h : t = s
    · subst h
      rw [if_pos rfl, hb]
      simp [evE, envF]
    · rw [if_neg h]
      have h' : ¬ s = t := fun e => h e.symm
      simp [evE, envF, h']
  | .neg a => by rw [subE, evE, evE, ev_sub hb a]
  | .bin k a a' => by rw [subE, evE, evE, ev_sub hb a, ev_sub hb a']
mutual
def repX (s : List UInt8) (y : Rx) : Rx → Rx
  | .mk op na xs nb ys nm args => if op = 2 ∧ nm = s then y else .mk op na xs nb ys nm (repXs s y args)
def repXs (s : List UInt8) (y : Rx) : List Rx → List Rx
  | [] => []
  | x :: r => repX s y x :: repXs s y r
end
theorem rep_rx {s : List UInt8} {b : Ex} : ∀ e : Ex, repX s (rx b) (rx e) = rx (subE s b e)
  | .num v u => by simp [rx, subE, repX, repXs]
  | .nam t => by
    rw [subE]
    by_cases h : t = s
    · simp [rx, repX, h]
    · simp [rx, repX, repXs, h]
  | .neg a => by simp [rx, subE, repX, repXs, rep_rx a]
  | .bin k a a' => by
    have hk : ¬ k.code = 2 := by cases k <;> decide
    simp [rx, subE, repX, repXs, rep_rx a, rep_rx a', hk]
theorem repXs_len (s : List UInt8) (y : Rx) : ∀ l : List Rx, (repXs s y l).length = l.length
  | [] => rfl
  | x :: r => by simp [repXs, repXs_len s y r]
theorem repXs_map (s : List UInt8) (y : Rx) : ∀ l : List Rx, repXs s y l = l.map (repX s y)
  | [] => rfl
  | x :: r => by simp [repXs, repXs_map s y r]
theorem wd_rep {s : List UInt8} {y : Rx} (hy : WdX y) : ∀ x, WdX x → WdX (repX s y x) := by
  refine rx_ind fun op na xs nb ys nm args ih hx => ?_
  obtain ⟨h1, h2, h3, h4, h5, h6, h7⟩ := hx
  rw [repX]
  split
  · exact hy
  · refine .mk h1 h2 h3 h4 h5 (by rw [repXs_len]; exact h6) fun z hz => ?_
    rw [repXs_map] at hz
    obtain ⟨w, hw, rfl⟩ := List.mem_map.1 hz
    exact ih w hw (h7 w hw)
theorem lt_rep {s : List UInt8} {y : Rx} (hy : ltX y = true) : ∀ x, ltX x = true → ltX (repX s y x) = true := by
  refine rx_ind fun op na xs nb ys nm args ih hx => ?_
  rw [ltX, Bool.and_eq_true] at hx
  rw [repX]
  split
  · exact hy
  · rw [ltX, Bool.and_eq_true]
    refine ⟨ltXs_all fun q z hz => ?_, hx.2⟩
    rw [repXs_map, List.getElem?_map] at hz
    cases h : args[q]? with
    | none => rw [h] at hz; cases hz
    | some w =>
      rw [h] at hz
      injection hz with hz
      subst hz
      have hm := List.mem_of_getElem? h
      exact ih w hm (ltXs_mem hx.1 w hm)
theorem aRs_snoc (l : List Rx) (i : Nat) (x : Rx) (h : l[i]? = some x) : aRs (l.take (i + 1)) = aRs (l.take i) ++ aR x := by
  induction l generalizing i with
  | nil => simp at h
  | cons z l ih =>
    cases i with
    | zero =>
      simp at h
      subst h
      simp [aRs]
    | succ i =>
      simp at h
      simp only [List.take_succ_cons, aRs]
      rw [ih i h, List.append_assoc]
theorem aRs_len7 : ∀ l : List Rx, (aRs l).length = l.length * 7
  | [] => rfl
  | x :: r => by rw [aRs, List.length_append, aR_len, aRs_len7 r, List.length_cons]; omega
def owC (t : Nat) : Nat → AV
  | 0 => .nl
  | i + 1 => .ow 701 (i + 1) 7 t
def owX (l : List Rx) : Nat → Option (List AV)
  | 0 => none
  | i + 1 => some (aRs (l.take (i + 1)))
theorem owX_snoc (l : List Rx) (i : Nat) (x : Rx) (h : l[i]? = some x) : owX l (i + 1) = some ((aRs (l.take i)).take (i * 7) ++ aR x) := by
  have hl := (List.getElem?_eq_some_iff.1 h).1
  have := List.take_of_length_le (l := aRs (l.take i)) (i := i * 7) (by rw [aRs_len7, List.length_take]; omega)
  rw [owX, aRs_snoc l i x h, this]
theorem szXs_len : ∀ l : List Rx, l.length ≤ szXs l
  | [] => Nat.le_refl _
  | x :: r => by
    have := szXs_len r
    obtain ⟨op, na, xs, nb, ys, nm, args⟩ := x
    rw [szXs, szX, List.length_cons]
    omega
def repS (op : Int) (na : Bool) (xs : List Nat) (nb : Bool) (ys : List Nat) (nm : List UInt8) (n : Nat) (cs cy : List AV) (s : List UInt8) (i : Nat) (x : Option (List AV)) : AS :=
  ⟨[(1, .d (dL s)), (5, .box 1 0), (6, .box 2 0), (7, .box 801 0), (23, .d (.leaf (.sl n cs))), (24, .d (dN .i64 n)), (25, .d (dN .i64 i))],
   [(1, some cy), (2, some (cell7 0 false [] false [] [] 0 [])), (801, some [.val (.int .i64 op), .val (.bool na), aW xs, .val (.bool nb), aW ys, .val (vL nm), owC 38 i]), (701, x)]⟩
def repT (op : Int) (na : Bool) (xs : List Nat) (nb : Bool) (ys : List Nat) (nm : List UInt8) (n : Nat) (cs cy : List AV) (s : List UInt8) (i : Nat) (x : List AV) : AS :=
  ⟨[(1, .d (dL s)), (5, .box 1 0), (6, .box 2 0), (7, .box 801 0), (23, .d (.leaf (.sl n cs))), (24, .d (dN .i64 n)), (25, .d (dN .i64 i))],
   [(1, some cy), (2, some (cell7 0 false [] false [] [] 0 [])), (801, some [.val (.int .i64 op), .val (.bool na), aW xs, .val (.bool nb), aW ys, .val (vL nm), .ow 702 i 7 38]), (702, some x)]⟩
theorem repT_S {op : Int} {na : Bool} {xs : List Nat} {nb : Bool} {ys : List Nat} {nm : List UInt8} {n : Nat} {cs cy : List AV} {s : List UInt8} {i : Nat} {x : List AV} : Weak (repT op na xs nb ys nm n cs cy s (i + 1) x) (repS op na xs nb ys nm n cs cy s (i + 1) (some x)) :=
  (weak_renameC (i := 801) (off := 6) (j := 702) (j' := 701) (m := i + 1) (k := 7) (e := 38) rfl rfl rfl rfl rfl rfl rfl).trans (weak ⟨rfl, rfl, rfl, rfl, rfl, rfl, rfl, trivial⟩ ⟨rfl, rfl, rfl, rfl, trivial⟩ rfl)
set_option maxHeartbeats 4000000 in
theorem ok_replaced (s : List UInt8) (y : Rx) : ∀ x : Rx, WdX x → szX x ≤ 1000000 → CallOK Tryz.prog 28 [dR x, dL s, dR y] (.one (dR (repX s y x))) := by
  refine rx_ind fun op na xs nb ys nm args ih hx hsz => ?_
  obtain ⟨_, _, hw, hw', _, hlen, hargs⟩ := hx
  rw [szX] at hsz
  have hal := szXs_len args
  obtain ⟨oy, nay, xsy, nby, ysy, nmy, ny, csy, hY⟩ := aR_form y
  have hdY : dR y = .agg (cell7 oy nay xsy nby ysy nmy ny csy) := congrArg DV.agg hY
  rw [hdY]
  have hih : ∀ i (hi : i < args.length), CallOK Tryz.prog 28 [dR args[i], dL s, .agg (cell7 oy nay xsy nby ysy nmy ny csy)] (.one (dR (repX s y args[i]))) := fun i hi => by
    rw [← hdY]; exact ih args[i] (List.getElem_mem hi) (hargs _ (List.getElem_mem hi)) (by have := szX_mem (List.getElem_mem hi); omega)
  show CallOK Tryz.prog _ [.agg (cell7 op na xs nb ys nm args.length (aRs args)), dL s, _] _
  refine callOK_of TT_ok mixT Tryz.func28 rfl rfl (Nat.le_of_ble_eq_true rfl) ?_
  repeat refine r_seq (T := TT) ?_
  refine r_region (T := TT) rfl ?_
  repeat (first | refine r_op rfl rfl rfl rfl ?_ | refine r_skip rfl rfl rfl ?_)
  try refine .done ?_
  refine r_cutP ⟨[(1, .d (dL s)), (3, .box 0 0), (5, .box 1 0), (6, .box 2 0)], [(0, some (cell7 op na xs nb ys nm args.length (aRs args))), (1, some (cell7 oy nay xsy nby ysy nmy ny csy)), (2, some (cell7 0 false [] false [] [] 0 []))]⟩ (¬ (op = 2 ∧ nm = s)) (fun hne s' hw2 => ?_) (fun R hR hret => ?_)
  · have hR : dR (repX s y (.mk op na xs nb ys nm args)) = .agg (cell7 op na xs nb ys nm args.length (aRs (repXs s y args))) := by
      rw [repX, if_neg hne]
      show DV.agg (aR (.mk op na xs nb ys nm (repXs s y args))) = _
      rw [aR, repXs_len]
      rfl
    rw [hR]
    refine r_weak hw2 rfl ?_
    iterate 1 (first | refine r_op rfl rfl rfl rfl ?_ | refine r_skip rfl rfl rfl ?_)
    refine r_alloc 801 TT_ok rfl rfl rfl rfl rfl rfl rfl rfl rfl rfl ?_
    repeat (first | refine r_op rfl rfl rfl rfl ?_ | refine r_skip rfl rfl rfl ?_ | refine .done ?_ | refine r_seq (T := TT) ?_ | refine r_region (T := TT) rfl ?_ | refine r_block (T := TT) ?_ | refine r_then (T := TT) rfl ?_ | refine r_else (T := TT) rfl ?_)
    refine r_loop Nat (fun i => i ≤ args.length) (fun i => repS op na xs nb ys nm args.length (aRs args) (cell7 oy nay xsy nby ysy nmy ny csy) s i (owX (repXs s y args) i)) (fun i => args.length - i) 0 (Nat.zero_le _) (weak ⟨rfl, rfl, rfl, rfl, rfl, rfl, rfl, trivial⟩ ⟨rfl, rfl, rfl, trivial⟩ rfl) ?_
    intro i hi
    by_cases hlt : i < args.length
    · obtain ⟨o1, na1, xs1, nb1, ys1, nm1, n1, cs1, hA⟩ := aR_form args[i]
      have hxi : args[i]? = some args[i] := by simp [hlt]
      have hat : ∀ (j : Nat) (a : AV), (cell7 o1 na1 xs1 nb1 ys1 nm1 n1 cs1)[j]? = some a → (aRs args)[i * 7 + j]? = some a := fun j a h => aRs_at args i args[i] hxi j a (by rw [hA]; exact h)
      obtain ⟨o2, na2, xs2, nb2, ys2, nm2, n2, cs2, hA2⟩ := aR_form (repX s y args[i])
      have c := hih i hlt
      rw [show dR args[i] = .agg (cell7 o1 na1 xs1 nb1 ys1 nm1 n1 cs1) from congrArg DV.agg hA, show dR (repX s y args[i]) = .agg (cell7 o2 na2 xs2 nb2 ys2 nm2 n2 cs2) from congrArg DV.agg hA2] at c
      have hri : (repXs s y args)[i]? = some (repX s y args[i]) := by rw [repXs_map, List.getElem?_map, hxi]; rfl
      have hs := owX_snoc (repXs s y args) i _ hri
      rw [hA2] at hs
      cases i with
      | zero =>
        unfold repS
        repeat refine r_seq (T := TT) ?_
        refine r_region (T := TT) rfl ?_
        refine r_eq (v' := .bool true) rfl rfl rfl rfl ?_ ?_
        · exact congrArg Value.bool (decide_eq_true (by omega))
        iterate 1 ((repeat (first | refine r_op rfl rfl rfl rfl ?_ | refine r_skip rfl rfl rfl ?_ | refine .done ?_ | refine r_seq (T := TT) ?_ | refine r_block (T := TT) ?_ | refine r_then (T := TT) rfl ?_ | refine r_else (T := TT) rfl ?_)); refine r_region (T := TT) rfl ?_)
        refine r_idx (i := 0) (cs' := cell7 o1 na1 xs1 nb1 ys1 nm1 n1 cs1) hlt hat (Nat.zero_lt_succ 6) rfl rfl rfl rfl rfl rfl rfl rfl ?_
        repeat (first | refine r_op rfl rfl rfl rfl ?_ | refine r_skip rfl rfl rfl ?_ | refine .done ?_ | refine r_seq (T := TT) ?_ | refine r_region (T := TT) rfl ?_ | refine r_block (T := TT) ?_ | refine r_then (T := TT) rfl ?_ | refine r_else (T := TT) rfl ?_)
        refine r_call (c) rfl rfl rfl rfl rfl rfl rfl ?_
        iterate 1 (first | refine r_op rfl rfl rfl rfl ?_ | refine r_skip rfl rfl rfl ?_)
        refine r_appD 702 (m1 := 0) (m2 := 1) TT_ok (by decide) (by decide) rfl rfl rfl rfl rfl rfl rfl rfl rfl rfl (.nil rfl rfl) rfl rfl rfl rfl ?_
        repeat (first | refine r_op rfl rfl rfl rfl ?_ | refine r_skip rfl rfl rfl ?_ | refine .done ?_ | refine r_seq (T := TT) ?_ | refine r_region (T := TT) rfl ?_ | refine r_block (T := TT) ?_ | refine r_then (T := TT) rfl ?_ | refine r_else (T := TT) rfl ?_)
        refine ⟨0 + 1, hlt, by omega, Eq.mpr (congrArg (Weak _) (congrArg (repS op na xs nb ys nm args.length (aRs args) (cell7 oy nay xsy nby ysy nmy ny csy) s (0 + 1)) hs)) (Weak.trans (b := repT op na xs nb ys nm args.length (aRs args) (cell7 oy nay xsy nby ysy nmy ny csy) s (0 + 1) _) ?_ repT_S)⟩
        exact weak ⟨rfl, rfl, rfl, rfl, rfl, rfl, tv_i64 (by omega) (by omega), trivial⟩ ⟨rfl, rfl, rfl, rfl, trivial⟩ rfl
      | succ i =>
        unfold repS
        repeat refine r_seq (T := TT) ?_
        refine r_region (T := TT) rfl ?_
        refine r_eq (v' := .bool true) rfl rfl rfl rfl ?_ ?_
        · exact congrArg Value.bool (decide_eq_true (by omega))
        iterate 1 ((repeat (first | refine r_op rfl rfl rfl rfl ?_ | refine r_skip rfl rfl rfl ?_ | refine .done ?_ | refine r_seq (T := TT) ?_ | refine r_block (T := TT) ?_ | refine r_then (T := TT) rfl ?_ | refine r_else (T := TT) rfl ?_)); refine r_region (T := TT) rfl ?_)
        refine r_idx (i := i + 1) (cs' := cell7 o1 na1 xs1 nb1 ys1 nm1 n1 cs1) hlt hat (Nat.zero_lt_succ 6) rfl rfl rfl rfl rfl rfl rfl rfl ?_
        repeat (first | refine r_op rfl rfl rfl rfl ?_ | refine r_skip rfl rfl rfl ?_ | refine .done ?_ | refine r_seq (T := TT) ?_ | refine r_region (T := TT) rfl ?_ | refine r_block (T := TT) ?_ | refine r_then (T := TT) rfl ?_ | refine r_else (T := TT) rfl ?_)
        refine r_call (c) rfl rfl rfl rfl rfl rfl rfl ?_
        iterate 1 (first | refine r_op rfl rfl rfl rfl ?_ | refine r_skip rfl rfl rfl ?_)
        refine r_appD 702 (m1 := i + 1) (m2 := 1) TT_ok (by decide) (by show (i + 1 + 1) * 112 ≤ _; omega) rfl rfl rfl rfl rfl rfl rfl rfl rfl rfl (.own rfl rfl) rfl rfl rfl rfl ?_
        repeat (first | refine r_op rfl rfl rfl rfl ?_ | refine r_skip rfl rfl rfl ?_ | refine .done ?_ | refine r_seq (T := TT) ?_ | refine r_region (T := TT) rfl ?_ | refine r_block (T := TT) ?_ | refine r_then (T := TT) rfl ?_ | refine r_else (T := TT) rfl ?_)
        refine ⟨i + 1 + 1, hlt, by omega, Eq.mpr (congrArg (Weak _) (congrArg (repS op na xs nb ys nm args.length (aRs args) (cell7 oy nay xsy nby ysy nmy ny csy) s (i + 1 + 1)) hs)) (Weak.trans (b := repT op na xs nb ys nm args.length (aRs args) (cell7 oy nay xsy nby ysy nmy ny csy) s (i + 1 + 1) _) ?_ repT_S)⟩
        exact weak ⟨rfl, rfl, rfl, rfl, rfl, rfl, tv_i64 (by omega) (by omega), trivial⟩ ⟨rfl, rfl, rfl, rfl, trivial⟩ rfl
    · obtain rfl : i = args.length := by omega
      have hl2 : (repXs s y args).length = args.length := repXs_len s y args
      cases hn : args.length with
      | zero =>
        have h0 : repXs s y args = [] := List.eq_nil_of_length_eq_zero (by omega)
        rw [h0]
        unfold repS
        repeat refine r_seq (T := TT) ?_
        refine r_region (T := TT) rfl ?_
        refine r_eq (v' := .bool false) rfl rfl rfl rfl ?_ ?_
        · exact congrArg Value.bool (decide_eq_false (by omega))
        repeat (first | refine r_op rfl rfl rfl rfl ?_ | refine r_skip rfl rfl rfl ?_ | refine .done ?_)
        refine r_seq (T := TT) ?_
        refine r_else (T := TT) rfl ?_
        refine r_exit ?_
        repeat refine r_seq (T := TT) ?_
        refine r_weak (weak_nl (i := 801) (off := 6) rfl rfl) rfl ?_
        repeat (first | refine r_op rfl rfl rfl rfl ?_ | refine r_skip rfl rfl rfl ?_ | refine .done ?_ | refine r_seq (T := TT) ?_ | refine r_region (T := TT) rfl ?_ | refine r_block (T := TT) ?_ | refine r_then (T := TT) rfl ?_ | refine r_else (T := TT) rfl ?_)
        exact r_fin (T := TT) rfl rfl
      | succ i =>
        unfold repS
        repeat refine r_seq (T := TT) ?_
        refine r_region (T := TT) rfl ?_
        refine r_eq (v' := .bool false) rfl rfl rfl rfl ?_ ?_
        · exact congrArg Value.bool (decide_eq_false (by omega))
        repeat (first | refine r_op rfl rfl rfl rfl ?_ | refine r_skip rfl rfl rfl ?_ | refine .done ?_)
        refine r_seq (T := TT) ?_
        refine r_else (T := TT) rfl ?_
        refine r_exit ?_
        have hx0 : owX (repXs s y args) (i + 1) = some (aRs (repXs s y args)) := by
          rw [owX, List.take_of_length_le (by omega)]
        rw [hx0]
        repeat refine r_seq (T := TT) ?_
        refine r_weak (weak_freezeC (i := 801) (off := 6) (j := 701) rfl rfl rfl rfl rfl) rfl ?_
        repeat (first | refine r_op rfl rfl rfl rfl ?_ | refine r_skip rfl rfl rfl ?_ | refine .done ?_ | refine r_seq (T := TT) ?_ | refine r_region (T := TT) rfl ?_ | refine r_block (T := TT) ?_ | refine r_then (T := TT) rfl ?_ | refine r_else (T := TT) rfl ?_)
        exact r_fin (T := TT) rfl rfl
  · repeat refine r_seq (T := TT) ?_
    refine r_region (T := TT) rfl ?_
    iterate 2 (first | refine r_op rfl rfl rfl rfl ?_ | refine r_skip rfl rfl rfl ?_)
    by_cases ho : op = 2
    · refine r_eq (v' := .bool true) rfl rfl rfl rfl ?_ ?_
      · exact congrArg Value.bool (decide_eq_true (by omega))
      iterate 4 (first | refine r_op rfl rfl rfl rfl ?_ | refine r_skip rfl rfl rfl ?_)
      by_cases hn : nm = s
      · refine r_bin rfl rfl rfl rfl rfl rfl rfl (binV_eqT (a := nm) (b := s) hn) ?_
        have hR0 : dR (repX s y (.mk op na xs nb ys nm args)) = .agg (cell7 oy nay xsy nby ysy nmy ny csy) := by
          rw [repX, if_pos ⟨ho, hn⟩]; exact hdY
        rw [hR0] at hret
        repeat (first | refine r_op rfl rfl rfl rfl ?_ | refine r_skip rfl rfl rfl ?_ | refine .done ?_ | refine r_seq (T := TT) ?_ | refine r_region (T := TT) rfl ?_ | refine r_block (T := TT) ?_ | refine r_then (T := TT) rfl ?_ | refine r_else (T := TT) rfl ?_)
        refine Eq.mpr (congrFun hret _) ?_
        exact r_fin (T := TT) rfl rfl
      · refine r_bin rfl rfl rfl rfl rfl rfl rfl (binV_eqF (a := nm) (b := s) hn) ?_
        repeat (first | refine r_op rfl rfl rfl rfl ?_ | refine r_skip rfl rfl rfl ?_ | refine .done ?_ | refine r_seq (T := TT) ?_ | refine r_region (T := TT) rfl ?_ | refine r_block (T := TT) ?_ | refine r_then (T := TT) rfl ?_ | refine r_else (T := TT) rfl ?_)
        exact hR (fun h => hn h.2) _ (weak ⟨rfl, rfl, rfl, rfl, trivial⟩ ⟨rfl, rfl, rfl, trivial⟩ rfl)
    · refine r_eq (v' := .bool false) rfl rfl rfl rfl ?_ ?_
      · exact congrArg Value.bool (decide_eq_false (by omega))
      repeat (first | refine r_op rfl rfl rfl rfl ?_ | refine r_skip rfl rfl rfl ?_ | refine .done ?_ | refine r_seq (T := TT) ?_ | refine r_region (T := TT) rfl ?_ | refine r_block (T := TT) ?_ | refine r_then (T := TT) rfl ?_ | refine r_else (T := TT) rfl ?_)
      exact hR (fun h => ho h.1) _ (weak ⟨rfl, rfl, rfl, rfl, trivial⟩ ⟨rfl, rfl, rfl, trivial⟩ rfl)
end Go.Proofs.YtmpadildchphgaaGreatDoor
