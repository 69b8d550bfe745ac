/- The value of an expression, in program and reference: the walks. -/
import Derived.Test.YtmpadildchphgaaGreatDoorEZ4
namespace Go.Proofs.YtmpadildchphgaaGreatDoor
open Go.RowKit
def opR : B4 → Rat → Int → Rat → Int → QR
  | .add, a, p, b, p' => addR a p b p'
  | .sub, a, p, b, p' => addR a p (-b) p'
  | .mul, a, p, b, p' => mulR a p b p'
  | .div, a, p, b, p' => divR a p b p'
def evE (env : List UInt8 → Option (Rat × Int)) : Ex → QR
  | .num v u => if u = [] then .ok (v, 0) else match fac u with
    | some q => .ok (v * q, 1)
    | none => .error 8
  | .nam s => match env s with
    | some x => .ok x
    | none => .error 4
  | .neg a => match evE env a with
    | .ok x => .ok (-x.1, x.2)
    | .error e => .error e
  | .bin k a b => match evE env a with
    | .error e => .error e
    | .ok x => match evE env b with
      | .error e => .error e
      | .ok y => opR k x.1 x.2 y.1 y.2
def wtE : Ex → Nat
  | .num _ _ => 9
  | .nam _ => 8
  | .neg a => wtE a
  | .bin _ a b => wtE a + wtE b + 1
def okE : Ex → Prop
  | .num v _ => SzQ 8 v
  | .nam _ => True
  | .neg a => okE a
  | .bin _ a b => okE a ∧ okE b
theorem opR_err {k : B4} {a b : Rat} {p p' z : Int} (h : opR k a p b p' = .error z) : z = 6 ∨ z = 8 := by
  cases k <;> simp only [opR, addR, mulR, divR] at h
  · split at h <;> cases h; exact .inr rfl
  · split at h <;> cases h; exact .inr rfl
  · split at h <;> cases h; exact .inr rfl
  · split at h
    · cases h; exact .inl rfl
    · split at h <;> cases h; exact .inr rfl
theorem ev_err {env : List UInt8 → Option (Rat × Int)} : ∀ {e : Ex} {z : Int}, evE env e = .error z → z ≠ 0
  | .num v u, z, h => by
    simp only [evE] at h
    split at h
    · cases h
    · split at h <;> cases h
      decide
  | .nam s, z, h => by
    simp only [evE] at h
    split at h <;> cases h
    decide
  | .neg a, z, h => by
    simp only [evE] at h
    split at h
    · cases h
    · rename_i e he; cases h; exact ev_err he
  | .bin k a b, z, h => by
    simp only [evE] at h
    split at h
    · rename_i e he; cases h; exact ev_err he
    · split at h
      · rename_i e he; cases h; exact ev_err he
      · rcases opR_err h with rfl | rfl <;> decide
def EnvOK (env : List UInt8 → Option (Rat × Int)) : Prop := ∀ s x, env s = some x → SzQ 8 x.1 ∧ inP x.2 = true
theorem opR_ok {k : B4} {i j : Nat} {a b : Rat} {p p' : Int} {x : Rat × Int} (h1 : SzQ i a) (h2 : SzQ j b) (hp : inP p = true) (h : opR k a p b p' = .ok x) : SzQ (i + j + 1) x.1 ∧ inP x.2 = true := by
  cases k <;> simp only [opR, addR, mulR, divR] at h
  · split at h <;> cases h; exact ⟨h1.add h2, hp⟩
  · split at h <;> cases h; exact ⟨h1.add h2.neg, hp⟩
  · split at h <;> cases h; exact ⟨(h1.mul h2).mono (by omega), by assumption⟩
  · split at h
    · cases h
    · split at h <;> cases h
      exact ⟨(h1.div h2 (by assumption)).mono (by omega), by assumption⟩
theorem ev_ok {env : List UInt8 → Option (Rat × Int)} (henv : EnvOK env) : ∀ {e : Ex} {x : Rat × Int}, okE e → evE env e = .ok x → SzQ (wtE e) x.1 ∧ inP x.2 = true
  | .num v u, x, ho, h => by
    simp only [evE] at h
    have ho : SzQ 8 v := ho
    split at h
    · cases h; exact ⟨ho.mono (show 8 ≤ 9 by decide), rfl⟩
    · split at h
      · rename_i q hq
        cases h
        exact ⟨ho.mul (fac_sz hq).1, rfl⟩
      · cases h
  | .nam s, x, _, h => by
    simp only [evE] at h
    split at h
    · rename_i y hy; cases h; exact henv s _ hy
    · cases h
  | .neg a, x, ho, h => by
    simp only [evE] at h
    split at h
    · rename_i y hy
      cases h
      have := ev_ok henv (e := a) ho hy
      exact ⟨this.1.neg, this.2⟩
    · cases h
  | .bin k a b, x, ho, h => by
    simp only [evE] at h
    split at h
    · cases h
    · rename_i y hy
      split at h
      · cases h
      · rename_i z hz
        have h1 := ev_ok henv ho.1 hy
        have h2 := ev_ok henv ho.2 hz
        exact opR_ok h1.1 h2.1 h1.2 h
theorem env_of {l : EL} (hv : ∀ x ∈ l, SzQ 8 x.2.1 ∧ inP x.2.2 = true) : EnvOK (envF l) := by
  intro s x h
  induction l with
  | nil => cases h
  | cons y l ih =>
    simp only [envF] at h
    split at h
    · cases h; exact hv y (by simp)
    · exact ih (fun x hx => hv x (by simp [hx])) h
theorem q_plus0 (a : Rat) : a + ((0 : Int) : Rat) = a := Rat.add_zero a
theorem s_zero : SzQ 1 ((0 : Int) : Rat) := ⟨.small (by decide), .small (by decide)⟩
section
variable {l : EL}
set_option maxHeartbeats 1000000 in
theorem ok_u_Eval_num {v : Rat} {u : List UInt8} (h : SzQ 8 v) : CallOK Tryz.prog 22 [dE (.num v u), dNm l, dVl l] (toRV (evE (envF l) (.num v u))) := by
  by_cases hu : u = []
  · rw [show evE (envF l) (.num v u) = .ok (v, 0) from if_pos hu]
    refine callOK_of TT_ok mixT Tryz.func22 rfl rfl (Nat.le_of_ble_eq_true rfl) ?_
    repeat refine r_seq (T := TT) ?_
    refine r_region (T := TT) rfl ?_
    repeat (first | refine r_op rfl rfl rfl rfl ?_ | refine r_skip rfl rfl rfl ?_)
    try refine .done ?_
    repeat refine r_seq (T := TT) ?_
    refine r_region (T := TT) rfl ?_
    repeat (first | refine r_op rfl rfl rfl rfl ?_ | refine r_skip rfl rfl rfl ?_)
    try refine .done ?_
    repeat (first | refine r_seq (T := TT) ?_ | refine r_block (T := TT) ?_)
    refine r_region (T := TT) rfl ?_
    repeat (first | refine r_op rfl rfl rfl rfl ?_ | refine r_skip rfl rfl rfl ?_ | refine .done ?_)
    refine r_then (T := TT) rfl ?_
    repeat (first | refine r_seq (T := TT) ?_ | refine r_block (T := TT) ?_)
    refine r_region (T := TT) rfl ?_
    iterate 2 (first | refine r_op rfl rfl rfl rfl ?_ | refine r_skip rfl rfl rfl ?_)
    refine r_bin rfl rfl rfl rfl rfl rfl rfl (binV_eqT (a := u) (b := []) hu) ?_
    repeat (first | refine r_op rfl rfl rfl rfl ?_ | refine r_skip rfl rfl rfl ?_ | refine .done ?_ | refine r_seq (T := TT) ?_ | refine r_region (T := TT) rfl ?_ | refine r_block (T := TT) ?_ | refine r_then (T := TT) rfl ?_ | refine r_else (T := TT) rfl ?_)
    refine r_call (ok_q_FromInt 0 (by decide) (by decide) rfl) rfl rfl rfl rfl rfl rfl rfl ?_
    refine r_call (ok_q_Add h s_zero (by decide) (q_plus0 v)) rfl rfl rfl rfl rfl rfl rfl ?_
    repeat (first | refine r_op rfl rfl rfl rfl ?_ | refine r_skip rfl rfl rfl ?_ | refine .done ?_ | refine r_seq (T := TT) ?_ | refine r_region (T := TT) rfl ?_ | refine r_block (T := TT) ?_ | refine r_then (T := TT) rfl ?_ | refine r_else (T := TT) rfl ?_)
    exact r_fin (T := TT) rfl rfl
  · have c1 := ok_u_Factor u
    unfold facR at c1
    cases hf : fac u with
    | none =>
      rw [hf] at c1
      rw [show evE (envF l) (.num v u) = .error 8 by simp only [evE, if_neg hu, hf]]
      refine callOK_of TT_ok mixT Tryz.func22 rfl rfl (Nat.le_of_ble_eq_true rfl) ?_
      repeat refine r_seq (T := TT) ?_
      refine r_region (T := TT) rfl ?_
      repeat (first | refine r_op rfl rfl rfl rfl ?_ | refine r_skip rfl rfl rfl ?_)
      try refine .done ?_
      repeat refine r_seq (T := TT) ?_
      refine r_region (T := TT) rfl ?_
      repeat (first | refine r_op rfl rfl rfl rfl ?_ | refine r_skip rfl rfl rfl ?_)
      try refine .done ?_
      repeat (first | refine r_seq (T := TT) ?_ | refine r_block (T := TT) ?_)
      refine r_region (T := TT) rfl ?_
      repeat (first | refine r_op rfl rfl rfl rfl ?_ | refine r_skip rfl rfl rfl ?_ | refine .done ?_)
      refine r_then (T := TT) rfl ?_
      repeat (first | refine r_seq (T := TT) ?_ | refine r_block (T := TT) ?_)
      refine r_region (T := TT) rfl ?_
      iterate 2 (first | refine r_op rfl rfl rfl rfl ?_ | refine r_skip rfl rfl rfl ?_)
      refine r_bin rfl rfl rfl rfl rfl rfl rfl (binV_eqF (a := u) (b := []) hu) ?_
      repeat (first | refine r_op rfl rfl rfl rfl ?_ | refine r_skip rfl rfl rfl ?_ | refine .done ?_ | refine r_seq (T := TT) ?_ | refine r_region (T := TT) rfl ?_ | refine r_block (T := TT) ?_ | refine r_then (T := TT) rfl ?_ | refine r_else (T := TT) rfl ?_)
      refine r_call (c1) rfl rfl rfl rfl rfl rfl rfl ?_
      repeat (first | refine r_op rfl rfl rfl rfl ?_ | refine r_skip rfl rfl rfl ?_ | refine .done ?_ | refine r_seq (T := TT) ?_ | refine r_region (T := TT) rfl ?_ | refine r_block (T := TT) ?_ | refine r_then (T := TT) rfl ?_ | refine r_else (T := TT) rfl ?_)
      exact r_fin (T := TT) rfl rfl
    | some q =>
      rw [hf] at c1
      rw [show evE (envF l) (.num v u) = .ok (v * q, 1) by simp only [evE, if_neg hu, hf]]
      refine callOK_of TT_ok mixT Tryz.func22 rfl rfl (Nat.le_of_ble_eq_true rfl) ?_
      repeat refine r_seq (T := TT) ?_
      refine r_region (T := TT) rfl ?_
      repeat (first | refine r_op rfl rfl rfl rfl ?_ | refine r_skip rfl rfl rfl ?_)
      try refine .done ?_
      repeat refine r_seq (T := TT) ?_
      refine r_region (T := TT) rfl ?_
      repeat (first | refine r_op rfl rfl rfl rfl ?_ | refine r_skip rfl rfl rfl ?_)
      try refine .done ?_
      repeat (first | refine r_seq (T := TT) ?_ | refine r_block (T := TT) ?_)
      refine r_region (T := TT) rfl ?_
      repeat (first | refine r_op rfl rfl rfl rfl ?_ | refine r_skip rfl rfl rfl ?_ | refine .done ?_)
      refine r_then (T := TT) rfl ?_
      repeat (first | refine r_seq (T := TT) ?_ | refine r_block (T := TT) ?_)
      refine r_region (T := TT) rfl ?_
      iterate 2 (first | refine r_op rfl rfl rfl rfl ?_ | refine r_skip rfl rfl rfl ?_)
      refine r_bin rfl rfl rfl rfl rfl rfl rfl (binV_eqF (a := u) (b := []) hu) ?_
      repeat (first | refine r_op rfl rfl rfl rfl ?_ | refine r_skip rfl rfl rfl ?_ | refine .done ?_ | refine r_seq (T := TT) ?_ | refine r_region (T := TT) rfl ?_ | refine r_block (T := TT) ?_ | refine r_then (T := TT) rfl ?_ | refine r_else (T := TT) rfl ?_)
      refine r_call (c1) rfl rfl rfl rfl rfl rfl rfl ?_
      repeat (first | refine r_op rfl rfl rfl rfl ?_ | refine r_skip rfl rfl rfl ?_ | refine .done ?_ | refine r_seq (T := TT) ?_ | refine r_region (T := TT) rfl ?_ | refine r_block (T := TT) ?_ | refine r_then (T := TT) rfl ?_ | refine r_else (T := TT) rfl ?_)
      refine r_call (ok_q_Mul h (fac_sz hf).1 (by decide) rfl) rfl rfl rfl rfl rfl rfl rfl ?_
      repeat (first | refine r_op rfl rfl rfl rfl ?_ | refine r_skip rfl rfl rfl ?_ | refine .done ?_ | refine r_seq (T := TT) ?_ | refine r_region (T := TT) rfl ?_ | refine r_block (T := TT) ?_ | refine r_then (T := TT) rfl ?_ | refine r_else (T := TT) rfl ?_)
      exact r_fin (T := TT) rfl rfl
set_option maxHeartbeats 1000000 in
theorem ok_u_Eval_nam {s : List UInt8} (hs : Sorted l) (hl : l.length ≤ 1000000) (hv : ∀ x ∈ l, SzQ 8 x.2.1 ∧ inP x.2.2 = true) : CallOK Tryz.prog 22 [dE (.nam s), dNm l, dVl l] (toRV (evE (envF l) (.nam s))) := by
  obtain ⟨i, b, c1, h1, h2⟩ := bsearch l hs hl s
  cases b with
  | false =>
    rw [show evE (envF l) (.nam s) = .error 4 by simp only [evE, envF_none (h2 rfl)]]
    refine callOK_of TT_ok mixT Tryz.func22 rfl rfl (Nat.le_of_ble_eq_true rfl) ?_
    repeat (first | refine r_op rfl rfl rfl rfl ?_ | refine r_skip rfl rfl rfl ?_ | refine .done ?_ | refine r_seq (T := TT) ?_ | refine r_region (T := TT) rfl ?_ | refine r_block (T := TT) ?_ | refine r_then (T := TT) rfl ?_ | refine r_else (T := TT) rfl ?_)
    refine r_call (c1) rfl rfl rfl rfl rfl rfl rfl ?_
    repeat (first | refine r_op rfl rfl rfl rfl ?_ | refine r_skip rfl rfl rfl ?_ | refine .done ?_ | refine r_seq (T := TT) ?_ | refine r_region (T := TT) rfl ?_ | refine r_block (T := TT) ?_ | refine r_then (T := TT) rfl ?_ | refine r_else (T := TT) rfl ?_)
    exact r_fin (T := TT) rfl rfl
  | true =>
    obtain ⟨x, hx, e⟩ := h1 rfl
    have hi : i < l.length := (List.getElem?_eq_some_iff.1 hx).1
    have hsz := (hv x (List.mem_of_getElem? hx)).1
    rw [show evE (envF l) (.nam s) = .ok x.2 by simp only [evE, ← e, envF_at hs hx]]
    refine callOK_of TT_ok mixT Tryz.func22 rfl rfl (Nat.le_of_ble_eq_true rfl) ?_
    repeat (first | refine r_op rfl rfl rfl rfl ?_ | refine r_skip rfl rfl rfl ?_ | refine .done ?_ | refine r_seq (T := TT) ?_ | refine r_region (T := TT) rfl ?_ | refine r_block (T := TT) ?_ | refine r_then (T := TT) rfl ?_ | refine r_else (T := TT) rfl ?_)
    refine r_call (c1) rfl rfl rfl rfl rfl rfl rfl ?_
    repeat (first | refine r_op rfl rfl rfl rfl ?_ | refine r_skip rfl rfl rfl ?_ | refine .done ?_ | refine r_seq (T := TT) ?_ | refine r_region (T := TT) rfl ?_ | refine r_block (T := TT) ?_ | refine r_then (T := TT) rfl ?_ | refine r_else (T := TT) rfl ?_)
    refine r_idx (i := i) (cs' := aQt x.2.1 x.2.2) hi (vl_at hx) (Nat.zero_lt_succ 4) rfl rfl rfl rfl rfl rfl rfl rfl ?_
    iterate 2 (first | refine r_op rfl rfl rfl rfl ?_ | refine r_skip rfl rfl rfl ?_)
    refine r_call (ok_q_FromInt 0 (by decide) (by decide) rfl) rfl rfl rfl rfl rfl rfl rfl ?_
    refine r_call (ok_q_Add hsz s_zero (by decide) (q_plus0 x.2.1)) rfl rfl rfl rfl rfl rfl rfl ?_
    iterate 2 (first | refine r_op rfl rfl rfl rfl ?_ | refine r_skip rfl rfl rfl ?_)
    refine r_idx (i := i) (cs' := aQt x.2.1 x.2.2) hi (vl_at hx) (Nat.zero_lt_succ 4) rfl rfl rfl rfl rfl rfl rfl rfl ?_
    repeat (first | refine r_op rfl rfl rfl rfl ?_ | refine r_skip rfl rfl rfl ?_ | refine .done ?_ | refine r_seq (T := TT) ?_ | refine r_region (T := TT) rfl ?_ | refine r_block (T := TT) ?_ | refine r_then (T := TT) rfl ?_ | refine r_else (T := TT) rfl ?_)
    exact r_fin (T := TT) rfl rfl
def cell7 (o : Int) (na : Bool) (xs : List Nat) (nb : Bool) (ys : List Nat) (nm : List UInt8) (n : Nat) (cs : List AV) : List AV := [.val (.int .i64 o), .val (.bool na), aW xs, .val (.bool nb), aW ys, .val (vL nm), .sl n cs]
theorem aE_form (a : Ex) : ∃ o na xs nb ys nm n cs, aE a = cell7 o na xs nb ys nm n cs := by
  unfold aE
  generalize rx a = x
  obtain ⟨op, na, xs, nb, ys, nm, args⟩ := x
  exact ⟨op, na, xs, nb, ys, nm, args.length, aRs args, rfl⟩
theorem arg_at1 (a : List AV) : ∀ (j : Nat) (x : AV), a[j]? = some x → a[0 * 7 + j]? = some x := fun j x h => by rw [Nat.zero_mul, Nat.zero_add]; exact h
theorem arg_at2 (a b : List AV) : ∀ (j : Nat) (x : AV), a[j]? = some x → (a ++ b)[0 * 7 + j]? = some x := fun j x h => by
  rw [Nat.zero_mul, Nat.zero_add, List.getElem?_append_left (List.getElem?_eq_some_iff.1 h).1]; exact h
theorem arg_at3 {a : List AV} (b : List AV) (ha : a.length = 7) : ∀ (j : Nat) (x : AV), b[j]? = some x → (a ++ b)[1 * 7 + j]? = some x := fun j x h => by
  rw [List.getElem?_append_right (by rw [ha]; omega), ha, show 1 * 7 + j - 7 = j by omega]; exact h
set_option maxHeartbeats 2000000 in
theorem ok_u_Eval_neg {a : Ex} (henv : EnvOK (envF l)) (ho : okE a) (hw : wtE a ≤ 1000000) (ih : CallOK Tryz.prog 22 [dE a, dNm l, dVl l] (toRV (evE (envF l) a))) : CallOK Tryz.prog 22 [dE (.neg a), dNm l, dVl l] (toRV (evE (envF l) (.neg a))) := by
  obtain ⟨o1, na1, xs1, nb1, ys1, nm1, n1, cs1, hA⟩ := aE_form a
  rw [show dE (.neg a) = .agg ([.val (.int .i64 3)] ++ aQ0 ++ [.val (vL []), .sl 1 (aE a)]) from congrArg DV.agg (aE_neg a), hA]
  rw [show dE a = .agg (cell7 o1 na1 xs1 nb1 ys1 nm1 n1 cs1) from congrArg DV.agg hA] at ih
  cases ha : evE (envF l) a with
  | error z =>
    have hz := ev_err ha
    rw [ha] at ih
    rw [show evE (envF l) (.neg a) = .error z by simp only [evE, ha]]
    refine callOK_of TT_ok mixT Tryz.func22 rfl rfl (Nat.le_of_ble_eq_true rfl) ?_
    repeat (first | refine r_op rfl rfl rfl rfl ?_ | refine r_skip rfl rfl rfl ?_ | refine .done ?_ | refine r_seq (T := TT) ?_ | refine r_region (T := TT) rfl ?_ | refine r_block (T := TT) ?_ | refine r_then (T := TT) rfl ?_ | refine r_else (T := TT) rfl ?_)
    refine r_unroll 2 ?_
    refine r_round ⟨[(1, .d (dNm l)), (2, .d (dVl l)), (3, .box 0 0), (6, .box 1 0), (7, .d (dN .i64 0)), (12, .nil), (72, .d (.leaf (.sl 1 (cell7 o1 na1 xs1 nb1 ys1 nm1 n1 cs1)))), (73, .d (dN .i64 1)), (74, .d (dN .i64 0))], [(0, some ([.val (.int .i64 3)] ++ aQ0 ++ [.val (vL []), .sl 1 (cell7 o1 na1 xs1 nb1 ys1 nm1 n1 cs1)])), (1, some aQt0)]⟩ (weak ⟨rfl, rfl, rfl, rfl, rfl, rfl, rfl, rfl, rfl, trivial⟩ ⟨rfl, rfl, trivial⟩ rfl) ?_
    repeat (first | refine r_op rfl rfl rfl rfl ?_ | refine r_skip rfl rfl rfl ?_ | refine .done ?_ | refine r_seq (T := TT) ?_ | refine r_region (T := TT) rfl ?_ | refine r_block (T := TT) ?_ | refine r_then (T := TT) rfl ?_ | refine r_else (T := TT) rfl ?_)
    refine r_idx (i := 0) (cs' := cell7 o1 na1 xs1 nb1 ys1 nm1 n1 cs1) (by decide) (arg_at1 _) (Nat.zero_lt_succ 6) rfl rfl rfl rfl rfl rfl rfl rfl ?_
    repeat (first | refine r_op rfl rfl rfl rfl ?_ | refine r_skip rfl rfl rfl ?_ | refine .done ?_ | refine r_seq (T := TT) ?_ | refine r_region (T := TT) rfl ?_ | refine r_block (T := TT) ?_ | refine r_then (T := TT) rfl ?_ | refine r_else (T := TT) rfl ?_)
    refine r_call (ih) rfl rfl rfl rfl rfl rfl rfl ?_
    repeat (first | refine r_op rfl rfl rfl rfl ?_ | refine r_skip rfl rfl rfl ?_ | refine .done ?_)
    repeat refine r_seq (T := TT) ?_
    refine r_region (T := TT) rfl ?_
    iterate 1 (first | refine r_op rfl rfl rfl rfl ?_ | refine r_skip rfl rfl rfl ?_)
    refine r_eq (v' := .bool true) rfl rfl rfl rfl ?_ ?_
    · exact congrArg Value.bool ((by simpa using hz))
    repeat (first | refine r_op rfl rfl rfl rfl ?_ | refine r_skip rfl rfl rfl ?_ | refine .done ?_ | refine r_seq (T := TT) ?_ | refine r_region (T := TT) rfl ?_ | refine r_block (T := TT) ?_ | refine r_then (T := TT) rfl ?_ | refine r_else (T := TT) rfl ?_)
    exact r_fin (T := TT) rfl rfl
  | ok x =>
    obtain ⟨hx, hp⟩ := ev_ok henv ho ha
    rw [ha] at ih
    rw [show evE (envF l) (.neg a) = .ok (-x.1, x.2) by simp only [evE, ha]]
    refine callOK_of TT_ok mixT Tryz.func22 rfl rfl (Nat.le_of_ble_eq_true rfl) ?_
    repeat (first | refine r_op rfl rfl rfl rfl ?_ | refine r_skip rfl rfl rfl ?_ | refine .done ?_ | refine r_seq (T := TT) ?_ | refine r_region (T := TT) rfl ?_ | refine r_block (T := TT) ?_ | refine r_then (T := TT) rfl ?_ | refine r_else (T := TT) rfl ?_)
    refine r_unroll 2 ?_
    refine r_round ⟨[(1, .d (dNm l)), (2, .d (dVl l)), (3, .box 0 0), (6, .box 1 0), (7, .d (dN .i64 0)), (12, .nil), (72, .d (.leaf (.sl 1 (cell7 o1 na1 xs1 nb1 ys1 nm1 n1 cs1)))), (73, .d (dN .i64 1)), (74, .d (dN .i64 0))], [(0, some ([.val (.int .i64 3)] ++ aQ0 ++ [.val (vL []), .sl 1 (cell7 o1 na1 xs1 nb1 ys1 nm1 n1 cs1)])), (1, some aQt0)]⟩ (weak ⟨rfl, rfl, rfl, rfl, rfl, rfl, rfl, rfl, rfl, trivial⟩ ⟨rfl, rfl, trivial⟩ rfl) ?_
    repeat (first | refine r_op rfl rfl rfl rfl ?_ | refine r_skip rfl rfl rfl ?_ | refine .done ?_ | refine r_seq (T := TT) ?_ | refine r_region (T := TT) rfl ?_ | refine r_block (T := TT) ?_ | refine r_then (T := TT) rfl ?_ | refine r_else (T := TT) rfl ?_)
    refine r_idx (i := 0) (cs' := cell7 o1 na1 xs1 nb1 ys1 nm1 n1 cs1) (by decide) (arg_at1 _) (Nat.zero_lt_succ 6) rfl rfl rfl rfl rfl rfl rfl rfl ?_
    repeat (first | refine r_op rfl rfl rfl rfl ?_ | refine r_skip rfl rfl rfl ?_ | refine .done ?_ | refine r_seq (T := TT) ?_ | refine r_region (T := TT) rfl ?_ | refine r_block (T := TT) ?_ | refine r_then (T := TT) rfl ?_ | refine r_else (T := TT) rfl ?_)
    refine r_call (ih) rfl rfl rfl rfl rfl rfl rfl ?_
    repeat (first | refine r_op rfl rfl rfl rfl ?_ | refine r_skip rfl rfl rfl ?_ | refine .done ?_ | refine r_seq (T := TT) ?_ | refine r_region (T := TT) rfl ?_ | refine r_block (T := TT) ?_ | refine r_then (T := TT) rfl ?_ | refine r_else (T := TT) rfl ?_)
    refine r_appC 5001 (m1 := 0) (m2 := 1) TT_ok (by decide) (by decide) rfl rfl rfl rfl rfl rfl rfl rfl rfl rfl rfl (.nil rfl rfl) rfl rfl rfl ?_
    repeat (first | refine r_op rfl rfl rfl rfl ?_ | refine r_skip rfl rfl rfl ?_ | refine .done ?_ | refine r_seq (T := TT) ?_ | refine r_region (T := TT) rfl ?_ | refine r_block (T := TT) ?_ | refine r_then (T := TT) rfl ?_ | refine r_else (T := TT) rfl ?_)
    refine r_round ⟨[(1, .d (dNm l)), (2, .d (dVl l)), (3, .box 0 0), (6, .box 1 0), (7, .d (dN .i64 0)), (12, .own 5001 1 5 28), (72, .d (.leaf (.sl 1 (cell7 o1 na1 xs1 nb1 ys1 nm1 n1 cs1)))), (73, .d (dN .i64 1)), (74, .d (dN .i64 1))], [(0, some ([.val (.int .i64 3)] ++ aQ0 ++ [.val (vL []), .sl 1 (cell7 o1 na1 xs1 nb1 ys1 nm1 n1 cs1)])), (1, some aQt0), (5001, some (aQt x.1 x.2))]⟩ (weak ⟨rfl, rfl, rfl, rfl, rfl, rfl, rfl, rfl, rfl, trivial⟩ ⟨rfl, rfl, rfl, trivial⟩ rfl) ?_
    repeat (first | refine r_op rfl rfl rfl rfl ?_ | refine r_skip rfl rfl rfl ?_ | refine .done ?_ | refine r_seq (T := TT) ?_ | refine r_region (T := TT) rfl ?_ | refine r_block (T := TT) ?_ | refine r_then (T := TT) rfl ?_ | refine r_else (T := TT) rfl ?_)
    refine r_oidx (i := 0) (by decide) rfl rfl rfl rfl rfl rfl rfl rfl rfl ?_
    repeat (first | refine r_op rfl rfl rfl rfl ?_ | refine r_skip rfl rfl rfl ?_ | refine .done ?_ | refine r_seq (T := TT) ?_ | refine r_region (T := TT) rfl ?_ | refine r_block (T := TT) ?_ | refine r_then (T := TT) rfl ?_ | refine r_else (T := TT) rfl ?_)
    refine r_call (ok_u_negative hx (by omega)) rfl rfl rfl rfl rfl rfl rfl ?_
    repeat (first | refine r_op rfl rfl rfl rfl ?_ | refine r_skip rfl rfl rfl ?_ | refine .done ?_ | refine r_seq (T := TT) ?_ | refine r_region (T := TT) rfl ?_ | refine r_block (T := TT) ?_ | refine r_then (T := TT) rfl ?_ | refine r_else (T := TT) rfl ?_)
    exact r_fin (T := TT) rfl rfl
set_option maxHeartbeats 4000000 in
theorem ok_u_Eval_add {a b : Ex} (henv : EnvOK (envF l)) (ho : okE a) (ho' : okE b) (hw : wtE a + wtE b ≤ 1000000) (ih : CallOK Tryz.prog 22 [dE a, dNm l, dVl l] (toRV (evE (envF l) a))) (ih' : CallOK Tryz.prog 22 [dE b, dNm l, dVl l] (toRV (evE (envF l) b))) : CallOK Tryz.prog 22 [dE (.bin .add a b), dNm l, dVl l] (toRV (evE (envF l) (.bin .add a b))) := by
  obtain ⟨o1, na1, xs1, nb1, ys1, nm1, n1, cs1, hA⟩ := aE_form a
  obtain ⟨o2, na2, xs2, nb2, ys2, nm2, n2, cs2, hB⟩ := aE_form b
  rw [show dE (.bin .add a b) = .agg ([.val (.int .i64 (B4.add).code)] ++ aQ0 ++ [.val (vL []), .sl 2 (aE a ++ aE b)]) from congrArg DV.agg (aE_bin .add a b), hA, hB]
  rw [show dE a = .agg (cell7 o1 na1 xs1 nb1 ys1 nm1 n1 cs1) from congrArg DV.agg hA] at ih
  rw [show dE b = .agg (cell7 o2 na2 xs2 nb2 ys2 nm2 n2 cs2) from congrArg DV.agg hB] at ih'
  cases ha : evE (envF l) a with
  | error z =>
    have hz := ev_err ha
    rw [ha] at ih
    rw [show evE (envF l) (.bin .add a b) = .error z by simp only [evE, ha]]
    refine callOK_of TT_ok mixT Tryz.func22 rfl rfl (Nat.le_of_ble_eq_true rfl) ?_
    repeat (first | refine r_op rfl rfl rfl rfl ?_ | refine r_skip rfl rfl rfl ?_ | refine .done ?_ | refine r_seq (T := TT) ?_ | refine r_region (T := TT) rfl ?_ | refine r_block (T := TT) ?_ | refine r_then (T := TT) rfl ?_ | refine r_else (T := TT) rfl ?_)
    refine r_unroll 3 ?_
    refine r_round ⟨[(1, .d (dNm l)), (2, .d (dVl l)), (3, .box 0 0), (6, .box 1 0), (7, .d (dN .i64 0)), (12, .nil), (72, .d (.leaf (.sl 2 (cell7 o1 na1 xs1 nb1 ys1 nm1 n1 cs1 ++ cell7 o2 na2 xs2 nb2 ys2 nm2 n2 cs2)))), (73, .d (dN .i64 2)), (74, .d (dN .i64 0))], [(0, some ([.val (.int .i64 (B4.add).code)] ++ aQ0 ++ [.val (vL []), .sl 2 (cell7 o1 na1 xs1 nb1 ys1 nm1 n1 cs1 ++ cell7 o2 na2 xs2 nb2 ys2 nm2 n2 cs2)])), (1, some aQt0)]⟩ (weak ⟨rfl, rfl, rfl, rfl, rfl, rfl, rfl, rfl, rfl, trivial⟩ ⟨rfl, rfl, trivial⟩ rfl) ?_
    repeat (first | refine r_op rfl rfl rfl rfl ?_ | refine r_skip rfl rfl rfl ?_ | refine .done ?_ | refine r_seq (T := TT) ?_ | refine r_region (T := TT) rfl ?_ | refine r_block (T := TT) ?_ | refine r_then (T := TT) rfl ?_ | refine r_else (T := TT) rfl ?_)
    refine r_idx (i := 0) (cs' := cell7 o1 na1 xs1 nb1 ys1 nm1 n1 cs1) (by decide) (arg_at2 _ _) (Nat.zero_lt_succ 6) rfl rfl rfl rfl rfl rfl rfl rfl ?_
    repeat (first | refine r_op rfl rfl rfl rfl ?_ | refine r_skip rfl rfl rfl ?_ | refine .done ?_ | refine r_seq (T := TT) ?_ | refine r_region (T := TT) rfl ?_ | refine r_block (T := TT) ?_ | refine r_then (T := TT) rfl ?_ | refine r_else (T := TT) rfl ?_)
    refine r_call (ih) rfl rfl rfl rfl rfl rfl rfl ?_
    repeat (first | refine r_op rfl rfl rfl rfl ?_ | refine r_skip rfl rfl rfl ?_ | refine .done ?_)
    repeat refine r_seq (T := TT) ?_
    refine r_region (T := TT) rfl ?_
    iterate 1 (first | refine r_op rfl rfl rfl rfl ?_ | refine r_skip rfl rfl rfl ?_)
    refine r_eq (v' := .bool true) rfl rfl rfl rfl ?_ ?_
    · exact congrArg Value.bool ((by simpa using hz))
    repeat (first | refine r_op rfl rfl rfl rfl ?_ | refine r_skip rfl rfl rfl ?_ | refine .done ?_ | refine r_seq (T := TT) ?_ | refine r_region (T := TT) rfl ?_ | refine r_block (T := TT) ?_ | refine r_then (T := TT) rfl ?_ | refine r_else (T := TT) rfl ?_)
    exact r_fin (T := TT) rfl rfl
  | ok x =>
    obtain ⟨hx, hpx⟩ := ev_ok henv ho ha
    rw [ha] at ih
    cases hb : evE (envF l) b with
    | error z =>
      have hz := ev_err hb
      rw [hb] at ih'
      rw [show evE (envF l) (.bin .add a b) = .error z by simp only [evE, ha, hb]]
      refine callOK_of TT_ok mixT Tryz.func22 rfl rfl (Nat.le_of_ble_eq_true rfl) ?_
      repeat (first | refine r_op rfl rfl rfl rfl ?_ | refine r_skip rfl rfl rfl ?_ | refine .done ?_ | refine r_seq (T := TT) ?_ | refine r_region (T := TT) rfl ?_ | refine r_block (T := TT) ?_ | refine r_then (T := TT) rfl ?_ | refine r_else (T := TT) rfl ?_)
      refine r_unroll 3 ?_
      refine r_round ⟨[(1, .d (dNm l)), (2, .d (dVl l)), (3, .box 0 0), (6, .box 1 0), (7, .d (dN .i64 0)), (12, .nil), (72, .d (.leaf (.sl 2 (cell7 o1 na1 xs1 nb1 ys1 nm1 n1 cs1 ++ cell7 o2 na2 xs2 nb2 ys2 nm2 n2 cs2)))), (73, .d (dN .i64 2)), (74, .d (dN .i64 0))], [(0, some ([.val (.int .i64 (B4.add).code)] ++ aQ0 ++ [.val (vL []), .sl 2 (cell7 o1 na1 xs1 nb1 ys1 nm1 n1 cs1 ++ cell7 o2 na2 xs2 nb2 ys2 nm2 n2 cs2)])), (1, some aQt0)]⟩ (weak ⟨rfl, rfl, rfl, rfl, rfl, rfl, rfl, rfl, rfl, trivial⟩ ⟨rfl, rfl, trivial⟩ rfl) ?_
      repeat (first | refine r_op rfl rfl rfl rfl ?_ | refine r_skip rfl rfl rfl ?_ | refine .done ?_ | refine r_seq (T := TT) ?_ | refine r_region (T := TT) rfl ?_ | refine r_block (T := TT) ?_ | refine r_then (T := TT) rfl ?_ | refine r_else (T := TT) rfl ?_)
      refine r_idx (i := 0) (cs' := cell7 o1 na1 xs1 nb1 ys1 nm1 n1 cs1) (by decide) (arg_at2 _ _) (Nat.zero_lt_succ 6) rfl rfl rfl rfl rfl rfl rfl rfl ?_
      repeat (first | refine r_op rfl rfl rfl rfl ?_ | refine r_skip rfl rfl rfl ?_ | refine .done ?_ | refine r_seq (T := TT) ?_ | refine r_region (T := TT) rfl ?_ | refine r_block (T := TT) ?_ | refine r_then (T := TT) rfl ?_ | refine r_else (T := TT) rfl ?_)
      refine r_call (ih) rfl rfl rfl rfl rfl rfl rfl ?_
      repeat (first | refine r_op rfl rfl rfl rfl ?_ | refine r_skip rfl rfl rfl ?_ | refine .done ?_ | refine r_seq (T := TT) ?_ | refine r_region (T := TT) rfl ?_ | refine r_block (T := TT) ?_ | refine r_then (T := TT) rfl ?_ | refine r_else (T := TT) rfl ?_)
      refine r_appC 5001 (m1 := 0) (m2 := 1) TT_ok (by decide) (by decide) rfl rfl rfl rfl rfl rfl rfl rfl rfl rfl rfl (.nil rfl rfl) rfl rfl rfl ?_
      repeat (first | refine r_op rfl rfl rfl rfl ?_ | refine r_skip rfl rfl rfl ?_ | refine .done ?_ | refine r_seq (T := TT) ?_ | refine r_region (T := TT) rfl ?_ | refine r_block (T := TT) ?_ | refine r_then (T := TT) rfl ?_ | refine r_else (T := TT) rfl ?_)
      refine r_round ⟨[(1, .d (dNm l)), (2, .d (dVl l)), (3, .box 0 0), (6, .box 1 0), (7, .d (dN .i64 0)), (12, .own 5001 1 5 28), (72, .d (.leaf (.sl 2 (cell7 o1 na1 xs1 nb1 ys1 nm1 n1 cs1 ++ cell7 o2 na2 xs2 nb2 ys2 nm2 n2 cs2)))), (73, .d (dN .i64 2)), (74, .d (dN .i64 1))], [(0, some ([.val (.int .i64 (B4.add).code)] ++ aQ0 ++ [.val (vL []), .sl 2 (cell7 o1 na1 xs1 nb1 ys1 nm1 n1 cs1 ++ cell7 o2 na2 xs2 nb2 ys2 nm2 n2 cs2)])), (1, some aQt0), (5001, some (aQt x.1 x.2))]⟩ (weak ⟨rfl, rfl, rfl, rfl, rfl, rfl, rfl, rfl, rfl, trivial⟩ ⟨rfl, rfl, rfl, trivial⟩ rfl) ?_
      repeat (first | refine r_op rfl rfl rfl rfl ?_ | refine r_skip rfl rfl rfl ?_ | refine .done ?_ | refine r_seq (T := TT) ?_ | refine r_region (T := TT) rfl ?_ | refine r_block (T := TT) ?_ | refine r_then (T := TT) rfl ?_ | refine r_else (T := TT) rfl ?_)
      refine r_idx (i := 1) (cs' := cell7 o2 na2 xs2 nb2 ys2 nm2 n2 cs2) (by decide) (arg_at3 _ rfl) (Nat.zero_lt_succ 6) rfl rfl rfl rfl rfl rfl rfl rfl ?_
      repeat (first | refine r_op rfl rfl rfl rfl ?_ | refine r_skip rfl rfl rfl ?_ | refine .done ?_ | refine r_seq (T := TT) ?_ | refine r_region (T := TT) rfl ?_ | refine r_block (T := TT) ?_ | refine r_then (T := TT) rfl ?_ | refine r_else (T := TT) rfl ?_)
      refine r_call (ih') rfl rfl rfl rfl rfl rfl rfl ?_
      repeat (first | refine r_op rfl rfl rfl rfl ?_ | refine r_skip rfl rfl rfl ?_ | refine .done ?_)
      repeat refine r_seq (T := TT) ?_
      refine r_region (T := TT) rfl ?_
      iterate 1 (first | refine r_op rfl rfl rfl rfl ?_ | refine r_skip rfl rfl rfl ?_)
      refine r_eq (v' := .bool true) rfl rfl rfl rfl ?_ ?_
      · exact congrArg Value.bool ((by simpa using hz))
      repeat (first | refine r_op rfl rfl rfl rfl ?_ | refine r_skip rfl rfl rfl ?_ | refine .done ?_ | refine r_seq (T := TT) ?_ | refine r_region (T := TT) rfl ?_ | refine r_block (T := TT) ?_ | refine r_then (T := TT) rfl ?_ | refine r_else (T := TT) rfl ?_)
      exact r_fin (T := TT) rfl rfl
    | ok y =>
      obtain ⟨hy, hpy⟩ := ev_ok henv ho' hb
      rw [hb] at ih'
      have hR : evE (envF l) (.bin .add a b) = opR .add x.1 x.2 y.1 y.2 := by simp only [evE, ha, hb]
      rw [hR]
      show CallOK Tryz.prog _ _ (toRV (addR x.1 x.2 y.1 y.2))
      have c := ok_u_Add hx hy (by omega) hpx (p' := y.2)
      cases hr : addR x.1 x.2 y.1 y.2 with
      | error z =>
        rw [hr] at c
        refine callOK_of TT_ok mixT Tryz.func22 rfl rfl (Nat.le_of_ble_eq_true rfl) ?_
        repeat (first | refine r_op rfl rfl rfl rfl ?_ | refine r_skip rfl rfl rfl ?_ | refine .done ?_ | refine r_seq (T := TT) ?_ | refine r_region (T := TT) rfl ?_ | refine r_block (T := TT) ?_ | refine r_then (T := TT) rfl ?_ | refine r_else (T := TT) rfl ?_)
        refine r_unroll 3 ?_
        refine r_round ⟨[(1, .d (dNm l)), (2, .d (dVl l)), (3, .box 0 0), (6, .box 1 0), (7, .d (dN .i64 0)), (12, .nil), (72, .d (.leaf (.sl 2 (cell7 o1 na1 xs1 nb1 ys1 nm1 n1 cs1 ++ cell7 o2 na2 xs2 nb2 ys2 nm2 n2 cs2)))), (73, .d (dN .i64 2)), (74, .d (dN .i64 0))], [(0, some ([.val (.int .i64 (B4.add).code)] ++ aQ0 ++ [.val (vL []), .sl 2 (cell7 o1 na1 xs1 nb1 ys1 nm1 n1 cs1 ++ cell7 o2 na2 xs2 nb2 ys2 nm2 n2 cs2)])), (1, some aQt0)]⟩ (weak ⟨rfl, rfl, rfl, rfl, rfl, rfl, rfl, rfl, rfl, trivial⟩ ⟨rfl, rfl, trivial⟩ rfl) ?_
        repeat (first | refine r_op rfl rfl rfl rfl ?_ | refine r_skip rfl rfl rfl ?_ | refine .done ?_ | refine r_seq (T := TT) ?_ | refine r_region (T := TT) rfl ?_ | refine r_block (T := TT) ?_ | refine r_then (T := TT) rfl ?_ | refine r_else (T := TT) rfl ?_)
        refine r_idx (i := 0) (cs' := cell7 o1 na1 xs1 nb1 ys1 nm1 n1 cs1) (by decide) (arg_at2 _ _) (Nat.zero_lt_succ 6) rfl rfl rfl rfl rfl rfl rfl rfl ?_
        repeat (first | refine r_op rfl rfl rfl rfl ?_ | refine r_skip rfl rfl rfl ?_ | refine .done ?_ | refine r_seq (T := TT) ?_ | refine r_region (T := TT) rfl ?_ | refine r_block (T := TT) ?_ | refine r_then (T := TT) rfl ?_ | refine r_else (T := TT) rfl ?_)
        refine r_call (ih) rfl rfl rfl rfl rfl rfl rfl ?_
        repeat (first | refine r_op rfl rfl rfl rfl ?_ | refine r_skip rfl rfl rfl ?_ | refine .done ?_ | refine r_seq (T := TT) ?_ | refine r_region (T := TT) rfl ?_ | refine r_block (T := TT) ?_ | refine r_then (T := TT) rfl ?_ | refine r_else (T := TT) rfl ?_)
        refine r_appC 5001 (m1 := 0) (m2 := 1) TT_ok (by decide) (by decide) rfl rfl rfl rfl rfl rfl rfl rfl rfl rfl rfl (.nil rfl rfl) rfl rfl rfl ?_
        repeat (first | refine r_op rfl rfl rfl rfl ?_ | refine r_skip rfl rfl rfl ?_ | refine .done ?_ | refine r_seq (T := TT) ?_ | refine r_region (T := TT) rfl ?_ | refine r_block (T := TT) ?_ | refine r_then (T := TT) rfl ?_ | refine r_else (T := TT) rfl ?_)
        refine r_round ⟨[(1, .d (dNm l)), (2, .d (dVl l)), (3, .box 0 0), (6, .box 1 0), (7, .d (dN .i64 0)), (12, .own 5001 1 5 28), (72, .d (.leaf (.sl 2 (cell7 o1 na1 xs1 nb1 ys1 nm1 n1 cs1 ++ cell7 o2 na2 xs2 nb2 ys2 nm2 n2 cs2)))), (73, .d (dN .i64 2)), (74, .d (dN .i64 1))], [(0, some ([.val (.int .i64 (B4.add).code)] ++ aQ0 ++ [.val (vL []), .sl 2 (cell7 o1 na1 xs1 nb1 ys1 nm1 n1 cs1 ++ cell7 o2 na2 xs2 nb2 ys2 nm2 n2 cs2)])), (1, some aQt0), (5001, some (aQt x.1 x.2))]⟩ (weak ⟨rfl, rfl, rfl, rfl, rfl, rfl, rfl, rfl, rfl, trivial⟩ ⟨rfl, rfl, rfl, trivial⟩ rfl) ?_
        repeat (first | refine r_op rfl rfl rfl rfl ?_ | refine r_skip rfl rfl rfl ?_ | refine .done ?_ | refine r_seq (T := TT) ?_ | refine r_region (T := TT) rfl ?_ | refine r_block (T := TT) ?_ | refine r_then (T := TT) rfl ?_ | refine r_else (T := TT) rfl ?_)
        refine r_idx (i := 1) (cs' := cell7 o2 na2 xs2 nb2 ys2 nm2 n2 cs2) (by decide) (arg_at3 _ rfl) (Nat.zero_lt_succ 6) rfl rfl rfl rfl rfl rfl rfl rfl ?_
        repeat (first | refine r_op rfl rfl rfl rfl ?_ | refine r_skip rfl rfl rfl ?_ | refine .done ?_ | refine r_seq (T := TT) ?_ | refine r_region (T := TT) rfl ?_ | refine r_block (T := TT) ?_ | refine r_then (T := TT) rfl ?_ | refine r_else (T := TT) rfl ?_)
        refine r_call (ih') rfl rfl rfl rfl rfl rfl rfl ?_
        repeat (first | refine r_op rfl rfl rfl rfl ?_ | refine r_skip rfl rfl rfl ?_ | refine .done ?_ | refine r_seq (T := TT) ?_ | refine r_region (T := TT) rfl ?_ | refine r_block (T := TT) ?_ | refine r_then (T := TT) rfl ?_ | refine r_else (T := TT) rfl ?_)
        refine r_appC 5002 (m1 := 1) (m2 := 1) TT_ok (by decide) (by decide) rfl rfl rfl rfl rfl rfl rfl rfl rfl rfl rfl (.own rfl rfl) rfl rfl rfl ?_
        repeat (first | refine r_op rfl rfl rfl rfl ?_ | refine r_skip rfl rfl rfl ?_ | refine .done ?_ | refine r_seq (T := TT) ?_ | refine r_region (T := TT) rfl ?_ | refine r_block (T := TT) ?_ | refine r_then (T := TT) rfl ?_ | refine r_else (T := TT) rfl ?_)
        refine r_round ⟨[(1, .d (dNm l)), (2, .d (dVl l)), (3, .box 0 0), (6, .box 1 0), (7, .d (dN .i64 0)), (12, .own 5002 2 5 28), (72, .d (.leaf (.sl 2 (cell7 o1 na1 xs1 nb1 ys1 nm1 n1 cs1 ++ cell7 o2 na2 xs2 nb2 ys2 nm2 n2 cs2)))), (73, .d (dN .i64 2)), (74, .d (dN .i64 2))], [(0, some ([.val (.int .i64 (B4.add).code)] ++ aQ0 ++ [.val (vL []), .sl 2 (cell7 o1 na1 xs1 nb1 ys1 nm1 n1 cs1 ++ cell7 o2 na2 xs2 nb2 ys2 nm2 n2 cs2)])), (1, some aQt0), (5002, some (aQt x.1 x.2 ++ aQt y.1 y.2))]⟩ (weak ⟨rfl, rfl, rfl, rfl, rfl, rfl, rfl, rfl, rfl, trivial⟩ ⟨rfl, rfl, rfl, trivial⟩ rfl) ?_
        repeat (first | refine r_op rfl rfl rfl rfl ?_ | refine r_skip rfl rfl rfl ?_ | refine .done ?_ | refine r_seq (T := TT) ?_ | refine r_region (T := TT) rfl ?_ | refine r_block (T := TT) ?_ | refine r_then (T := TT) rfl ?_ | refine r_else (T := TT) rfl ?_)
        refine r_oidx (i := 0) (by decide) rfl rfl rfl rfl rfl rfl rfl rfl rfl ?_
        iterate 2 (first | refine r_op rfl rfl rfl rfl ?_ | refine r_skip rfl rfl rfl ?_)
        refine r_oidx (i := 1) (by decide) rfl rfl rfl rfl rfl rfl rfl rfl rfl ?_
        iterate 1 (first | refine r_op rfl rfl rfl rfl ?_ | refine r_skip rfl rfl rfl ?_)
        refine r_call (c) rfl rfl rfl rfl rfl rfl rfl ?_
        repeat (first | refine r_op rfl rfl rfl rfl ?_ | refine r_skip rfl rfl rfl ?_ | refine .done ?_ | refine r_seq (T := TT) ?_ | refine r_region (T := TT) rfl ?_ | refine r_block (T := TT) ?_ | refine r_then (T := TT) rfl ?_ | refine r_else (T := TT) rfl ?_)
        exact r_fin (T := TT) rfl rfl
      | ok z =>
        rw [hr] at c
        refine callOK_of TT_ok mixT Tryz.func22 rfl rfl (Nat.le_of_ble_eq_true rfl) ?_
        repeat (first | refine r_op rfl rfl rfl rfl ?_ | refine r_skip rfl rfl rfl ?_ | refine .done ?_ | refine r_seq (T := TT) ?_ | refine r_region (T := TT) rfl ?_ | refine r_block (T := TT) ?_ | refine r_then (T := TT) rfl ?_ | refine r_else (T := TT) rfl ?_)
        refine r_unroll 3 ?_
        refine r_round ⟨[(1, .d (dNm l)), (2, .d (dVl l)), (3, .box 0 0), (6, .box 1 0), (7, .d (dN .i64 0)), (12, .nil), (72, .d (.leaf (.sl 2 (cell7 o1 na1 xs1 nb1 ys1 nm1 n1 cs1 ++ cell7 o2 na2 xs2 nb2 ys2 nm2 n2 cs2)))), (73, .d (dN .i64 2)), (74, .d (dN .i64 0))], [(0, some ([.val (.int .i64 (B4.add).code)] ++ aQ0 ++ [.val (vL []), .sl 2 (cell7 o1 na1 xs1 nb1 ys1 nm1 n1 cs1 ++ cell7 o2 na2 xs2 nb2 ys2 nm2 n2 cs2)])), (1, some aQt0)]⟩ (weak ⟨rfl, rfl, rfl, rfl, rfl, rfl, rfl, rfl, rfl, trivial⟩ ⟨rfl, rfl, trivial⟩ rfl) ?_
        repeat (first | refine r_op rfl rfl rfl rfl ?_ | refine r_skip rfl rfl rfl ?_ | refine .done ?_ | refine r_seq (T := TT) ?_ | refine r_region (T := TT) rfl ?_ | refine r_block (T := TT) ?_ | refine r_then (T := TT) rfl ?_ | refine r_else (T := TT) rfl ?_)
        refine r_idx (i := 0) (cs' := cell7 o1 na1 xs1 nb1 ys1 nm1 n1 cs1) (by decide) (arg_at2 _ _) (Nat.zero_lt_succ 6) rfl rfl rfl rfl rfl rfl rfl rfl ?_
        repeat (first | refine r_op rfl rfl rfl rfl ?_ | refine r_skip rfl rfl rfl ?_ | refine .done ?_ | refine r_seq (T := TT) ?_ | refine r_region (T := TT) rfl ?_ | refine r_block (T := TT) ?_ | refine r_then (T := TT) rfl ?_ | refine r_else (T := TT) rfl ?_)
        refine r_call (ih) rfl rfl rfl rfl rfl rfl rfl ?_
        repeat (first | refine r_op rfl rfl rfl rfl ?_ | refine r_skip rfl rfl rfl ?_ | refine .done ?_ | refine r_seq (T := TT) ?_ | refine r_region (T := TT) rfl ?_ | refine r_block (T := TT) ?_ | refine r_then (T := TT) rfl ?_ | refine r_else (T := TT) rfl ?_)
        refine r_appC 5001 (m1 := 0) (m2 := 1) TT_ok (by decide) (by decide) rfl rfl rfl rfl rfl rfl rfl rfl rfl rfl rfl (.nil rfl rfl) rfl rfl rfl ?_
        repeat (first | refine r_op rfl rfl rfl rfl ?_ | refine r_skip rfl rfl rfl ?_ | refine .done ?_ | refine r_seq (T := TT) ?_ | refine r_region (T := TT) rfl ?_ | refine r_block (T := TT) ?_ | refine r_then (T := TT) rfl ?_ | refine r_else (T := TT) rfl ?_)
        refine r_round ⟨[(1, .d (dNm l)), (2, .d (dVl l)), (3, .box 0 0), (6, .box 1 0), (7, .d (dN .i64 0)), (12, .own 5001 1 5 28), (72, .d (.leaf (.sl 2 (cell7 o1 na1 xs1 nb1 ys1 nm1 n1 cs1 ++ cell7 o2 na2 xs2 nb2 ys2 nm2 n2 cs2)))), (73, .d (dN .i64 2)), (74, .d (dN .i64 1))], [(0, some ([.val (.int .i64 (B4.add).code)] ++ aQ0 ++ [.val (vL []), .sl 2 (cell7 o1 na1 xs1 nb1 ys1 nm1 n1 cs1 ++ cell7 o2 na2 xs2 nb2 ys2 nm2 n2 cs2)])), (1, some aQt0), (5001, some (aQt x.1 x.2))]⟩ (weak ⟨rfl, rfl, rfl, rfl, rfl, rfl, rfl, rfl, rfl, trivial⟩ ⟨rfl, rfl, rfl, trivial⟩ rfl) ?_
        repeat (first | refine r_op rfl rfl rfl rfl ?_ | refine r_skip rfl rfl rfl ?_ | refine .done ?_ | refine r_seq (T := TT) ?_ | refine r_region (T := TT) rfl ?_ | refine r_block (T := TT) ?_ | refine r_then (T := TT) rfl ?_ | refine r_else (T := TT) rfl ?_)
        refine r_idx (i := 1) (cs' := cell7 o2 na2 xs2 nb2 ys2 nm2 n2 cs2) (by decide) (arg_at3 _ rfl) (Nat.zero_lt_succ 6) rfl rfl rfl rfl rfl rfl rfl rfl ?_
        repeat (first | refine r_op rfl rfl rfl rfl ?_ | refine r_skip rfl rfl rfl ?_ | refine .done ?_ | refine r_seq (T := TT) ?_ | refine r_region (T := TT) rfl ?_ | refine r_block (T := TT) ?_ | refine r_then (T := TT) rfl ?_ | refine r_else (T := TT) rfl ?_)
        refine r_call (ih') rfl rfl rfl rfl rfl rfl rfl ?_
        repeat (first | refine r_op rfl rfl rfl rfl ?_ | refine r_skip rfl rfl rfl ?_ | refine .done ?_ | refine r_seq (T := TT) ?_ | refine r_region (T := TT) rfl ?_ | refine r_block (T := TT) ?_ | refine r_then (T := TT) rfl ?_ | refine r_else (T := TT) rfl ?_)
        refine r_appC 5002 (m1 := 1) (m2 := 1) TT_ok (by decide) (by decide) rfl rfl rfl rfl rfl rfl rfl rfl rfl rfl rfl (.own rfl rfl) rfl rfl rfl ?_
        repeat (first | refine r_op rfl rfl rfl rfl ?_ | refine r_skip rfl rfl rfl ?_ | refine .done ?_ | refine r_seq (T := TT) ?_ | refine r_region (T := TT) rfl ?_ | refine r_block (T := TT) ?_ | refine r_then (T := TT) rfl ?_ | refine r_else (T := TT) rfl ?_)
        refine r_round ⟨[(1, .d (dNm l)), (2, .d (dVl l)), (3, .box 0 0), (6, .box 1 0), (7, .d (dN .i64 0)), (12, .own 5002 2 5 28), (72, .d (.leaf (.sl 2 (cell7 o1 na1 xs1 nb1 ys1 nm1 n1 cs1 ++ cell7 o2 na2 xs2 nb2 ys2 nm2 n2 cs2)))), (73, .d (dN .i64 2)), (74, .d (dN .i64 2))], [(0, some ([.val (.int .i64 (B4.add).code)] ++ aQ0 ++ [.val (vL []), .sl 2 (cell7 o1 na1 xs1 nb1 ys1 nm1 n1 cs1 ++ cell7 o2 na2 xs2 nb2 ys2 nm2 n2 cs2)])), (1, some aQt0), (5002, some (aQt x.1 x.2 ++ aQt y.1 y.2))]⟩ (weak ⟨rfl, rfl, rfl, rfl, rfl, rfl, rfl, rfl, rfl, trivial⟩ ⟨rfl, rfl, rfl, trivial⟩ rfl) ?_
        repeat (first | refine r_op rfl rfl rfl rfl ?_ | refine r_skip rfl rfl rfl ?_ | refine .done ?_ | refine r_seq (T := TT) ?_ | refine r_region (T := TT) rfl ?_ | refine r_block (T := TT) ?_ | refine r_then (T := TT) rfl ?_ | refine r_else (T := TT) rfl ?_)
        refine r_oidx (i := 0) (by decide) rfl rfl rfl rfl rfl rfl rfl rfl rfl ?_
        iterate 2 (first | refine r_op rfl rfl rfl rfl ?_ | refine r_skip rfl rfl rfl ?_)
        refine r_oidx (i := 1) (by decide) rfl rfl rfl rfl rfl rfl rfl rfl rfl ?_
        iterate 1 (first | refine r_op rfl rfl rfl rfl ?_ | refine r_skip rfl rfl rfl ?_)
        refine r_call (c) rfl rfl rfl rfl rfl rfl rfl ?_
        repeat (first | refine r_op rfl rfl rfl rfl ?_ | refine r_skip rfl rfl rfl ?_ | refine .done ?_ | refine r_seq (T := TT) ?_ | refine r_region (T := TT) rfl ?_ | refine r_block (T := TT) ?_ | refine r_then (T := TT) rfl ?_ | refine r_else (T := TT) rfl ?_)
        exact r_fin (T := TT) rfl rfl
set_option maxHeartbeats 4000000 in
theorem ok_u_Eval_sub {a b : Ex} (henv : EnvOK (envF l)) (ho : okE a) (ho' : okE b) (hw : wtE a + wtE b ≤ 1000000) (ih : CallOK Tryz.prog 22 [dE a, dNm l, dVl l] (toRV (evE (envF l) a))) (ih' : CallOK Tryz.prog 22 [dE b, dNm l, dVl l] (toRV (evE (envF l) b))) : CallOK Tryz.prog 22 [dE (.bin .sub a b), dNm l, dVl l] (toRV (evE (envF l) (.bin .sub a b))) := by
  obtain ⟨o1, na1, xs1, nb1, ys1, nm1, n1, cs1, hA⟩ := aE_form a
  obtain ⟨o2, na2, xs2, nb2, ys2, nm2, n2, cs2, hB⟩ := aE_form b
  rw [show dE (.bin .sub a b) = .agg ([.val (.int .i64 (B4.sub).code)] ++ aQ0 ++ [.val (vL []), .sl 2 (aE a ++ aE b)]) from congrArg DV.agg (aE_bin .sub a b), hA, hB]
  rw [show dE a = .agg (cell7 o1 na1 xs1 nb1 ys1 nm1 n1 cs1) from congrArg DV.agg hA] at ih
  rw [show dE b = .agg (cell7 o2 na2 xs2 nb2 ys2 nm2 n2 cs2) from congrArg DV.agg hB] at ih'
  cases ha : evE (envF l) a with
  | error z =>
    have hz := ev_err ha
    rw [ha] at ih
    rw [show evE (envF l) (.bin .sub a b) = .error z by simp only [evE, ha]]
    refine callOK_of TT_ok mixT Tryz.func22 rfl rfl (Nat.le_of_ble_eq_true rfl) ?_
    repeat (first | refine r_op rfl rfl rfl rfl ?_ | refine r_skip rfl rfl rfl ?_ | refine .done ?_ | refine r_seq (T := TT) ?_ | refine r_region (T := TT) rfl ?_ | refine r_block (T := TT) ?_ | refine r_then (T := TT) rfl ?_ | refine r_else (T := TT) rfl ?_)
    refine r_unroll 3 ?_
    refine r_round ⟨[(1, .d (dNm l)), (2, .d (dVl l)), (3, .box 0 0), (6, .box 1 0), (7, .d (dN .i64 0)), (12, .nil), (72, .d (.leaf (.sl 2 (cell7 o1 na1 xs1 nb1 ys1 nm1 n1 cs1 ++ cell7 o2 na2 xs2 nb2 ys2 nm2 n2 cs2)))), (73, .d (dN .i64 2)), (74, .d (dN .i64 0))], [(0, some ([.val (.int .i64 (B4.sub).code)] ++ aQ0 ++ [.val (vL []), .sl 2 (cell7 o1 na1 xs1 nb1 ys1 nm1 n1 cs1 ++ cell7 o2 na2 xs2 nb2 ys2 nm2 n2 cs2)])), (1, some aQt0)]⟩ (weak ⟨rfl, rfl, rfl, rfl, rfl, rfl, rfl, rfl, rfl, trivial⟩ ⟨rfl, rfl, trivial⟩ rfl) ?_
    repeat (first | refine r_op rfl rfl rfl rfl ?_ | refine r_skip rfl rfl rfl ?_ | refine .done ?_ | refine r_seq (T := TT) ?_ | refine r_region (T := TT) rfl ?_ | refine r_block (T := TT) ?_ | refine r_then (T := TT) rfl ?_ | refine r_else (T := TT) rfl ?_)
    refine r_idx (i := 0) (cs' := cell7 o1 na1 xs1 nb1 ys1 nm1 n1 cs1) (by decide) (arg_at2 _ _) (Nat.zero_lt_succ 6) rfl rfl rfl rfl rfl rfl rfl rfl ?_
    repeat (first | refine r_op rfl rfl rfl rfl ?_ | refine r_skip rfl rfl rfl ?_ | refine .done ?_ | refine r_seq (T := TT) ?_ | refine r_region (T := TT) rfl ?_ | refine r_block (T := TT) ?_ | refine r_then (T := TT) rfl ?_ | refine r_else (T := TT) rfl ?_)
    refine r_call (ih) rfl rfl rfl rfl rfl rfl rfl ?_
    repeat (first | refine r_op rfl rfl rfl rfl ?_ | refine r_skip rfl rfl rfl ?_ | refine .done ?_)
    repeat refine r_seq (T := TT) ?_
    refine r_region (T := TT) rfl ?_
    iterate 1 (first | refine r_op rfl rfl rfl rfl ?_ | refine r_skip rfl rfl rfl ?_)
    refine r_eq (v' := .bool true) rfl rfl rfl rfl ?_ ?_
    · exact congrArg Value.bool ((by simpa using hz))
    repeat (first | refine r_op rfl rfl rfl rfl ?_ | refine r_skip rfl rfl rfl ?_ | refine .done ?_ | refine r_seq (T := TT) ?_ | refine r_region (T := TT) rfl ?_ | refine r_block (T := TT) ?_ | refine r_then (T := TT) rfl ?_ | refine r_else (T := TT) rfl ?_)
    exact r_fin (T := TT) rfl rfl
  | ok x =>
    obtain ⟨hx, hpx⟩ := ev_ok henv ho ha
    rw [ha] at ih
    cases hb : evE (envF l) b with
    | error z =>
      have hz := ev_err hb
      rw [hb] at ih'
      rw [show evE (envF l) (.bin .sub a b) = .error z by simp only [evE, ha, hb]]
      refine callOK_of TT_ok mixT Tryz.func22 rfl rfl (Nat.le_of_ble_eq_true rfl) ?_
      repeat (first | refine r_op rfl rfl rfl rfl ?_ | refine r_skip rfl rfl rfl ?_ | refine .done ?_ | refine r_seq (T := TT) ?_ | refine r_region (T := TT) rfl ?_ | refine r_block (T := TT) ?_ | refine r_then (T := TT) rfl ?_ | refine r_else (T := TT) rfl ?_)
      refine r_unroll 3 ?_
      refine r_round ⟨[(1, .d (dNm l)), (2, .d (dVl l)), (3, .box 0 0), (6, .box 1 0), (7, .d (dN .i64 0)), (12, .nil), (72, .d (.leaf (.sl 2 (cell7 o1 na1 xs1 nb1 ys1 nm1 n1 cs1 ++ cell7 o2 na2 xs2 nb2 ys2 nm2 n2 cs2)))), (73, .d (dN .i64 2)), (74, .d (dN .i64 0))], [(0, some ([.val (.int .i64 (B4.sub).code)] ++ aQ0 ++ [.val (vL []), .sl 2 (cell7 o1 na1 xs1 nb1 ys1 nm1 n1 cs1 ++ cell7 o2 na2 xs2 nb2 ys2 nm2 n2 cs2)])), (1, some aQt0)]⟩ (weak ⟨rfl, rfl, rfl, rfl, rfl, rfl, rfl, rfl, rfl, trivial⟩ ⟨rfl, rfl, trivial⟩ rfl) ?_
      repeat (first | refine r_op rfl rfl rfl rfl ?_ | refine r_skip rfl rfl rfl ?_ | refine .done ?_ | refine r_seq (T := TT) ?_ | refine r_region (T := TT) rfl ?_ | refine r_block (T := TT) ?_ | refine r_then (T := TT) rfl ?_ | refine r_else (T := TT) rfl ?_)
      refine r_idx (i := 0) (cs' := cell7 o1 na1 xs1 nb1 ys1 nm1 n1 cs1) (by decide) (arg_at2 _ _) (Nat.zero_lt_succ 6) rfl rfl rfl rfl rfl rfl rfl rfl ?_
      repeat (first | refine r_op rfl rfl rfl rfl ?_ | refine r_skip rfl rfl rfl ?_ | refine .done ?_ | refine r_seq (T := TT) ?_ | refine r_region (T := TT) rfl ?_ | refine r_block (T := TT) ?_ | refine r_then (T := TT) rfl ?_ | refine r_else (T := TT) rfl ?_)
      refine r_call (ih) rfl rfl rfl rfl rfl rfl rfl ?_
      repeat (first | refine r_op rfl rfl rfl rfl ?_ | refine r_skip rfl rfl rfl ?_ | refine .done ?_ | refine r_seq (T := TT) ?_ | refine r_region (T := TT) rfl ?_ | refine r_block (T := TT) ?_ | refine r_then (T := TT) rfl ?_ | refine r_else (T := TT) rfl ?_)
      refine r_appC 5001 (m1 := 0) (m2 := 1) TT_ok (by decide) (by decide) rfl rfl rfl rfl rfl rfl rfl rfl rfl rfl rfl (.nil rfl rfl) rfl rfl rfl ?_
      repeat (first | refine r_op rfl rfl rfl rfl ?_ | refine r_skip rfl rfl rfl ?_ | refine .done ?_ | refine r_seq (T := TT) ?_ | refine r_region (T := TT) rfl ?_ | refine r_block (T := TT) ?_ | refine r_then (T := TT) rfl ?_ | refine r_else (T := TT) rfl ?_)
      refine r_round ⟨[(1, .d (dNm l)), (2, .d (dVl l)), (3, .box 0 0), (6, .box 1 0), (7, .d (dN .i64 0)), (12, .own 5001 1 5 28), (72, .d (.leaf (.sl 2 (cell7 o1 na1 xs1 nb1 ys1 nm1 n1 cs1 ++ cell7 o2 na2 xs2 nb2 ys2 nm2 n2 cs2)))), (73, .d (dN .i64 2)), (74, .d (dN .i64 1))], [(0, some ([.val (.int .i64 (B4.sub).code)] ++ aQ0 ++ [.val (vL []), .sl 2 (cell7 o1 na1 xs1 nb1 ys1 nm1 n1 cs1 ++ cell7 o2 na2 xs2 nb2 ys2 nm2 n2 cs2)])), (1, some aQt0), (5001, some (aQt x.1 x.2))]⟩ (weak ⟨rfl, rfl, rfl, rfl, rfl, rfl, rfl, rfl, rfl, trivial⟩ ⟨rfl, rfl, rfl, trivial⟩ rfl) ?_
      repeat (first | refine r_op rfl rfl rfl rfl ?_ | refine r_skip rfl rfl rfl ?_ | refine .done ?_ | refine r_seq (T := TT) ?_ | refine r_region (T := TT) rfl ?_ | refine r_block (T := TT) ?_ | refine r_then (T := TT) rfl ?_ | refine r_else (T := TT) rfl ?_)
      refine r_idx (i := 1) (cs' := cell7 o2 na2 xs2 nb2 ys2 nm2 n2 cs2) (by decide) (arg_at3 _ rfl) (Nat.zero_lt_succ 6) rfl rfl rfl rfl rfl rfl rfl rfl ?_
      repeat (first | refine r_op rfl rfl rfl rfl ?_ | refine r_skip rfl rfl rfl ?_ | refine .done ?_ | refine r_seq (T := TT) ?_ | refine r_region (T := TT) rfl ?_ | refine r_block (T := TT) ?_ | refine r_then (T := TT) rfl ?_ | refine r_else (T := TT) rfl ?_)
      refine r_call (ih') rfl rfl rfl rfl rfl rfl rfl ?_
      repeat (first | refine r_op rfl rfl rfl rfl ?_ | refine r_skip rfl rfl rfl ?_ | refine .done ?_)
      repeat refine r_seq (T := TT) ?_
      refine r_region (T := TT) rfl ?_
      iterate 1 (first | refine r_op rfl rfl rfl rfl ?_ | refine r_skip rfl rfl rfl ?_)
      refine r_eq (v' := .bool true) rfl rfl rfl rfl ?_ ?_
      · exact congrArg Value.bool ((by simpa using hz))
      repeat (first | refine r_op rfl rfl rfl rfl ?_ | refine r_skip rfl rfl rfl ?_ | refine .done ?_ | refine r_seq (T := TT) ?_ | refine r_region (T := TT) rfl ?_ | refine r_block (T := TT) ?_ | refine r_then (T := TT) rfl ?_ | refine r_else (T := TT) rfl ?_)
      exact r_fin (T := TT) rfl rfl
    | ok y =>
      obtain ⟨hy, hpy⟩ := ev_ok henv ho' hb
      rw [hb] at ih'
      have hR : evE (envF l) (.bin .sub a b) = opR .sub x.1 x.2 y.1 y.2 := by simp only [evE, ha, hb]
      rw [hR]
      show CallOK Tryz.prog _ _ (toRV (addR x.1 x.2 (-y.1) y.2))
      have c := ok_u_Add hx hy.neg (by omega) hpx (p' := y.2)
      cases hr : addR x.1 x.2 (-y.1) y.2 with
      | error z =>
        rw [hr] at c
        refine callOK_of TT_ok mixT Tryz.func22 rfl rfl (Nat.le_of_ble_eq_true rfl) ?_
        repeat (first | refine r_op rfl rfl rfl rfl ?_ | refine r_skip rfl rfl rfl ?_ | refine .done ?_ | refine r_seq (T := TT) ?_ | refine r_region (T := TT) rfl ?_ | refine r_block (T := TT) ?_ | refine r_then (T := TT) rfl ?_ | refine r_else (T := TT) rfl ?_)
        refine r_unroll 3 ?_
        refine r_round ⟨[(1, .d (dNm l)), (2, .d (dVl l)), (3, .box 0 0), (6, .box 1 0), (7, .d (dN .i64 0)), (12, .nil), (72, .d (.leaf (.sl 2 (cell7 o1 na1 xs1 nb1 ys1 nm1 n1 cs1 ++ cell7 o2 na2 xs2 nb2 ys2 nm2 n2 cs2)))), (73, .d (dN .i64 2)), (74, .d (dN .i64 0))], [(0, some ([.val (.int .i64 (B4.sub).code)] ++ aQ0 ++ [.val (vL []), .sl 2 (cell7 o1 na1 xs1 nb1 ys1 nm1 n1 cs1 ++ cell7 o2 na2 xs2 nb2 ys2 nm2 n2 cs2)])), (1, some aQt0)]⟩ (weak ⟨rfl, rfl, rfl, rfl, rfl, rfl, rfl, rfl, rfl, trivial⟩ ⟨rfl, rfl, trivial⟩ rfl) ?_
        repeat (first | refine r_op rfl rfl rfl rfl ?_ | refine r_skip rfl rfl rfl ?_ | refine .done ?_ | refine r_seq (T := TT) ?_ | refine r_region (T := TT) rfl ?_ | refine r_block (T := TT) ?_ | refine r_then (T := TT) rfl ?_ | refine r_else (T := TT) rfl ?_)
        refine r_idx (i := 0) (cs' := cell7 o1 na1 xs1 nb1 ys1 nm1 n1 cs1) (by decide) (arg_at2 _ _) (Nat.zero_lt_succ 6) rfl rfl rfl rfl rfl rfl rfl rfl ?_
        repeat (first | refine r_op rfl rfl rfl rfl ?_ | refine r_skip rfl rfl rfl ?_ | refine .done ?_ | refine r_seq (T := TT) ?_ | refine r_region (T := TT) rfl ?_ | refine r_block (T := TT) ?_ | refine r_then (T := TT) rfl ?_ | refine r_else (T := TT) rfl ?_)
        refine r_call (ih) rfl rfl rfl rfl rfl rfl rfl ?_
        repeat (first | refine r_op rfl rfl rfl rfl ?_ | refine r_skip rfl rfl rfl ?_ | refine .done ?_ | refine r_seq (T := TT) ?_ | refine r_region (T := TT) rfl ?_ | refine r_block (T := TT) ?_ | refine r_then (T := TT) rfl ?_ | refine r_else (T := TT) rfl ?_)
        refine r_appC 5001 (m1 := 0) (m2 := 1) TT_ok (by decide) (by decide) rfl rfl rfl rfl rfl rfl rfl rfl rfl rfl rfl (.nil rfl rfl) rfl rfl rfl ?_
        repeat (first | refine r_op rfl rfl rfl rfl ?_ | refine r_skip rfl rfl rfl ?_ | refine .done ?_ | refine r_seq (T := TT) ?_ | refine r_region (T := TT) rfl ?_ | refine r_block (T := TT) ?_ | refine r_then (T := TT) rfl ?_ | refine r_else (T := TT) rfl ?_)
        refine r_round ⟨[(1, .d (dNm l)), (2, .d (dVl l)), (3, .box 0 0), (6, .box 1 0), (7, .d (dN .i64 0)), (12, .own 5001 1 5 28), (72, .d (.leaf (.sl 2 (cell7 o1 na1 xs1 nb1 ys1 nm1 n1 cs1 ++ cell7 o2 na2 xs2 nb2 ys2 nm2 n2 cs2)))), (73, .d (dN .i64 2)), (74, .d (dN .i64 1))], [(0, some ([.val (.int .i64 (B4.sub).code)] ++ aQ0 ++ [.val (vL []), .sl 2 (cell7 o1 na1 xs1 nb1 ys1 nm1 n1 cs1 ++ cell7 o2 na2 xs2 nb2 ys2 nm2 n2 cs2)])), (1, some aQt0), (5001, some (aQt x.1 x.2))]⟩ (weak ⟨rfl, rfl, rfl, rfl, rfl, rfl, rfl, rfl, rfl, trivial⟩ ⟨rfl, rfl, rfl, trivial⟩ rfl) ?_
        repeat (first | refine r_op rfl rfl rfl rfl ?_ | refine r_skip rfl rfl rfl ?_ | refine .done ?_ | refine r_seq (T := TT) ?_ | refine r_region (T := TT) rfl ?_ | refine r_block (T := TT) ?_ | refine r_then (T := TT) rfl ?_ | refine r_else (T := TT) rfl ?_)
        refine r_idx (i := 1) (cs' := cell7 o2 na2 xs2 nb2 ys2 nm2 n2 cs2) (by decide) (arg_at3 _ rfl) (Nat.zero_lt_succ 6) rfl rfl rfl rfl rfl rfl rfl rfl ?_
        repeat (first | refine r_op rfl rfl rfl rfl ?_ | refine r_skip rfl rfl rfl ?_ | refine .done ?_ | refine r_seq (T := TT) ?_ | refine r_region (T := TT) rfl ?_ | refine r_block (T := TT) ?_ | refine r_then (T := TT) rfl ?_ | refine r_else (T := TT) rfl ?_)
        refine r_call (ih') rfl rfl rfl rfl rfl rfl rfl ?_
        repeat (first | refine r_op rfl rfl rfl rfl ?_ | refine r_skip rfl rfl rfl ?_ | refine .done ?_ | refine r_seq (T := TT) ?_ | refine r_region (T := TT) rfl ?_ | refine r_block (T := TT) ?_ | refine r_then (T := TT) rfl ?_ | refine r_else (T := TT) rfl ?_)
        refine r_appC 5002 (m1 := 1) (m2 := 1) TT_ok (by decide) (by decide) rfl rfl rfl rfl rfl rfl rfl rfl rfl rfl rfl (.own rfl rfl) rfl rfl rfl ?_
        repeat (first | refine r_op rfl rfl rfl rfl ?_ | refine r_skip rfl rfl rfl ?_ | refine .done ?_ | refine r_seq (T := TT) ?_ | refine r_region (T := TT) rfl ?_ | refine r_block (T := TT) ?_ | refine r_then (T := TT) rfl ?_ | refine r_else (T := TT) rfl ?_)
        refine r_round ⟨[(1, .d (dNm l)), (2, .d (dVl l)), (3, .box 0 0), (6, .box 1 0), (7, .d (dN .i64 0)), (12, .own 5002 2 5 28), (72, .d (.leaf (.sl 2 (cell7 o1 na1 xs1 nb1 ys1 nm1 n1 cs1 ++ cell7 o2 na2 xs2 nb2 ys2 nm2 n2 cs2)))), (73, .d (dN .i64 2)), (74, .d (dN .i64 2))], [(0, some ([.val (.int .i64 (B4.sub).code)] ++ aQ0 ++ [.val (vL []), .sl 2 (cell7 o1 na1 xs1 nb1 ys1 nm1 n1 cs1 ++ cell7 o2 na2 xs2 nb2 ys2 nm2 n2 cs2)])), (1, some aQt0), (5002, some (aQt x.1 x.2 ++ aQt y.1 y.2))]⟩ (weak ⟨rfl, rfl, rfl, rfl, rfl, rfl, rfl, rfl, rfl, trivial⟩ ⟨rfl, rfl, rfl, trivial⟩ rfl) ?_
        repeat (first | refine r_op rfl rfl rfl rfl ?_ | refine r_skip rfl rfl rfl ?_ | refine .done ?_ | refine r_seq (T := TT) ?_ | refine r_region (T := TT) rfl ?_ | refine r_block (T := TT) ?_ | refine r_then (T := TT) rfl ?_ | refine r_else (T := TT) rfl ?_)
        refine r_oidx (i := 0) (by decide) rfl rfl rfl rfl rfl rfl rfl rfl rfl ?_
        iterate 2 (first | refine r_op rfl rfl rfl rfl ?_ | refine r_skip rfl rfl rfl ?_)
        refine r_oidx (i := 1) (by decide) rfl rfl rfl rfl rfl rfl rfl rfl rfl ?_
        iterate 1 (first | refine r_op rfl rfl rfl rfl ?_ | refine r_skip rfl rfl rfl ?_)
        refine r_call (ok_u_negative hy (by omega)) rfl rfl rfl rfl rfl rfl rfl ?_
        refine r_call (c) rfl rfl rfl rfl rfl rfl rfl ?_
        repeat (first | refine r_op rfl rfl rfl rfl ?_ | refine r_skip rfl rfl rfl ?_ | refine .done ?_ | refine r_seq (T := TT) ?_ | refine r_region (T := TT) rfl ?_ | refine r_block (T := TT) ?_ | refine r_then (T := TT) rfl ?_ | refine r_else (T := TT) rfl ?_)
        exact r_fin (T := TT) rfl rfl
      | ok z =>
        rw [hr] at c
        refine callOK_of TT_ok mixT Tryz.func22 rfl rfl (Nat.le_of_ble_eq_true rfl) ?_
        repeat (first | refine r_op rfl rfl rfl rfl ?_ | refine r_skip rfl rfl rfl ?_ | refine .done ?_ | refine r_seq (T := TT) ?_ | refine r_region (T := TT) rfl ?_ | refine r_block (T := TT) ?_ | refine r_then (T := TT) rfl ?_ | refine r_else (T := TT) rfl ?_)
        refine r_unroll 3 ?_
        refine r_round ⟨[(1, .d (dNm l)), (2, .d (dVl l)), (3, .box 0 0), (6, .box 1 0), (7, .d (dN .i64 0)), (12, .nil), (72, .d (.leaf (.sl 2 (cell7 o1 na1 xs1 nb1 ys1 nm1 n1 cs1 ++ cell7 o2 na2 xs2 nb2 ys2 nm2 n2 cs2)))), (73, .d (dN .i64 2)), (74, .d (dN .i64 0))], [(0, some ([.val (.int .i64 (B4.sub).code)] ++ aQ0 ++ [.val (vL []), .sl 2 (cell7 o1 na1 xs1 nb1 ys1 nm1 n1 cs1 ++ cell7 o2 na2 xs2 nb2 ys2 nm2 n2 cs2)])), (1, some aQt0)]⟩ (weak ⟨rfl, rfl, rfl, rfl, rfl, rfl, rfl, rfl, rfl, trivial⟩ ⟨rfl, rfl, trivial⟩ rfl) ?_
        repeat (first | refine r_op rfl rfl rfl rfl ?_ | refine r_skip rfl rfl rfl ?_ | refine .done ?_ | refine r_seq (T := TT) ?_ | refine r_region (T := TT) rfl ?_ | refine r_block (T := TT) ?_ | refine r_then (T := TT) rfl ?_ | refine r_else (T := TT) rfl ?_)
        refine r_idx (i := 0) (cs' := cell7 o1 na1 xs1 nb1 ys1 nm1 n1 cs1) (by decide) (arg_at2 _ _) (Nat.zero_lt_succ 6) rfl rfl rfl rfl rfl rfl rfl rfl ?_
        repeat (first | refine r_op rfl rfl rfl rfl ?_ | refine r_skip rfl rfl rfl ?_ | refine .done ?_ | refine r_seq (T := TT) ?_ | refine r_region (T := TT) rfl ?_ | refine r_block (T := TT) ?_ | refine r_then (T := TT) rfl ?_ | refine r_else (T := TT) rfl ?_)
        refine r_call (ih) rfl rfl rfl rfl rfl rfl rfl ?_
        repeat (first | refine r_op rfl rfl rfl rfl ?_ | refine r_skip rfl rfl rfl ?_ | refine .done ?_ | refine r_seq (T := TT) ?_ | refine r_region (T := TT) rfl ?_ | refine r_block (T := TT) ?_ | refine r_then (T := TT) rfl ?_ | refine r_else (T := TT) rfl ?_)
        refine r_appC 5001 (m1 := 0) (m2 := 1) TT_ok (by decide) (by decide) rfl rfl rfl rfl rfl rfl rfl rfl rfl rfl rfl (.nil rfl rfl) rfl rfl rfl ?_
        repeat (first | refine r_op rfl rfl rfl rfl ?_ | refine r_skip rfl rfl rfl ?_ | refine .done ?_ | refine r_seq (T := TT) ?_ | refine r_region (T := TT) rfl ?_ | refine r_block (T := TT) ?_ | refine r_then (T := TT) rfl ?_ | refine r_else (T := TT) rfl ?_)
        refine r_round ⟨[(1, .d (dNm l)), (2, .d (dVl l)), (3, .box 0 0), (6, .box 1 0), (7, .d (dN .i64 0)), (12, .own 5001 1 5 28), (72, .d (.leaf (.sl 2 (cell7 o1 na1 xs1 nb1 ys1 nm1 n1 cs1 ++ cell7 o2 na2 xs2 nb2 ys2 nm2 n2 cs2)))), (73, .d (dN .i64 2)), (74, .d (dN .i64 1))], [(0, some ([.val (.int .i64 (B4.sub).code)] ++ aQ0 ++ [.val (vL []), .sl 2 (cell7 o1 na1 xs1 nb1 ys1 nm1 n1 cs1 ++ cell7 o2 na2 xs2 nb2 ys2 nm2 n2 cs2)])), (1, some aQt0), (5001, some (aQt x.1 x.2))]⟩ (weak ⟨rfl, rfl, rfl, rfl, rfl, rfl, rfl, rfl, rfl, trivial⟩ ⟨rfl, rfl, rfl, trivial⟩ rfl) ?_
        repeat (first | refine r_op rfl rfl rfl rfl ?_ | refine r_skip rfl rfl rfl ?_ | refine .done ?_ | refine r_seq (T := TT) ?_ | refine r_region (T := TT) rfl ?_ | refine r_block (T := TT) ?_ | refine r_then (T := TT) rfl ?_ | refine r_else (T := TT) rfl ?_)
        refine r_idx (i := 1) (cs' := cell7 o2 na2 xs2 nb2 ys2 nm2 n2 cs2) (by decide) (arg_at3 _ rfl) (Nat.zero_lt_succ 6) rfl rfl rfl rfl rfl rfl rfl rfl ?_
        repeat (first | refine r_op rfl rfl rfl rfl ?_ | refine r_skip rfl rfl rfl ?_ | refine .done ?_ | refine r_seq (T := TT) ?_ | refine r_region (T := TT) rfl ?_ | refine r_block (T := TT) ?_ | refine r_then (T := TT) rfl ?_ | refine r_else (T := TT) rfl ?_)
        refine r_call (ih') rfl rfl rfl rfl rfl rfl rfl ?_
        repeat (first | refine r_op rfl rfl rfl rfl ?_ | refine r_skip rfl rfl rfl ?_ | refine .done ?_ | refine r_seq (T := TT) ?_ | refine r_region (T := TT) rfl ?_ | refine r_block (T := TT) ?_ | refine r_then (T := TT) rfl ?_ | refine r_else (T := TT) rfl ?_)
        refine r_appC 5002 (m1 := 1) (m2 := 1) TT_ok (by decide) (by decide) rfl rfl rfl rfl rfl rfl rfl rfl rfl rfl rfl (.own rfl rfl) rfl rfl rfl ?_
        repeat (first | refine r_op rfl rfl rfl rfl ?_ | refine r_skip rfl rfl rfl ?_ | refine .done ?_ | refine r_seq (T := TT) ?_ | refine r_region (T := TT) rfl ?_ | refine r_block (T := TT) ?_ | refine r_then (T := TT) rfl ?_ | refine r_else (T := TT) rfl ?_)
        refine r_round ⟨[(1, .d (dNm l)), (2, .d (dVl l)), (3, .box 0 0), (6, .box 1 0), (7, .d (dN .i64 0)), (12, .own 5002 2 5 28), (72, .d (.leaf (.sl 2 (cell7 o1 na1 xs1 nb1 ys1 nm1 n1 cs1 ++ cell7 o2 na2 xs2 nb2 ys2 nm2 n2 cs2)))), (73, .d (dN .i64 2)), (74, .d (dN .i64 2))], [(0, some ([.val (.int .i64 (B4.sub).code)] ++ aQ0 ++ [.val (vL []), .sl 2 (cell7 o1 na1 xs1 nb1 ys1 nm1 n1 cs1 ++ cell7 o2 na2 xs2 nb2 ys2 nm2 n2 cs2)])), (1, some aQt0), (5002, some (aQt x.1 x.2 ++ aQt y.1 y.2))]⟩ (weak ⟨rfl, rfl, rfl, rfl, rfl, rfl, rfl, rfl, rfl, trivial⟩ ⟨rfl, rfl, rfl, trivial⟩ rfl) ?_
        repeat (first | refine r_op rfl rfl rfl rfl ?_ | refine r_skip rfl rfl rfl ?_ | refine .done ?_ | refine r_seq (T := TT) ?_ | refine r_region (T := TT) rfl ?_ | refine r_block (T := TT) ?_ | refine r_then (T := TT) rfl ?_ | refine r_else (T := TT) rfl ?_)
        refine r_oidx (i := 0) (by decide) rfl rfl rfl rfl rfl rfl rfl rfl rfl ?_
        iterate 2 (first | refine r_op rfl rfl rfl rfl ?_ | refine r_skip rfl rfl rfl ?_)
        refine r_oidx (i := 1) (by decide) rfl rfl rfl rfl rfl rfl rfl rfl rfl ?_
        iterate 1 (first | refine r_op rfl rfl rfl rfl ?_ | refine r_skip rfl rfl rfl ?_)
        refine r_call (ok_u_negative hy (by omega)) rfl rfl rfl rfl rfl rfl rfl ?_
        refine r_call (c) rfl rfl rfl rfl rfl rfl rfl ?_
        repeat (first | refine r_op rfl rfl rfl rfl ?_ | refine r_skip rfl rfl rfl ?_ | refine .done ?_ | refine r_seq (T := TT) ?_ | refine r_region (T := TT) rfl ?_ | refine r_block (T := TT) ?_ | refine r_then (T := TT) rfl ?_ | refine r_else (T := TT) rfl ?_)
        exact r_fin (T := TT) rfl rfl
set_option maxHeartbeats 4000000 in
theorem ok_u_Eval_mul {a b : Ex} (henv : EnvOK (envF l)) (ho : okE a) (ho' : okE b) (hw : wtE a + wtE b ≤ 1000000) (ih : CallOK Tryz.prog 22 [dE a, dNm l, dVl l] (toRV (evE (envF l) a))) (ih' : CallOK Tryz.prog 22 [dE b, dNm l, dVl l] (toRV (evE (envF l) b))) : CallOK Tryz.prog 22 [dE (.bin .mul a b), dNm l, dVl l] (toRV (evE (envF l) (.bin .mul a b))) := by
  obtain ⟨o1, na1, xs1, nb1, ys1, nm1, n1, cs1, hA⟩ := aE_form a
  obtain ⟨o2, na2, xs2, nb2, ys2, nm2, n2, cs2, hB⟩ := aE_form b
  rw [show dE (.bin .mul a b) = .agg ([.val (.int .i64 (B4.mul).code)] ++ aQ0 ++ [.val (vL []), .sl 2 (aE a ++ aE b)]) from congrArg DV.agg (aE_bin .mul a b), hA, hB]
  rw [show dE a = .agg (cell7 o1 na1 xs1 nb1 ys1 nm1 n1 cs1) from congrArg DV.agg hA] at ih
  rw [show dE b = .agg (cell7 o2 na2 xs2 nb2 ys2 nm2 n2 cs2) from congrArg DV.agg hB] at ih'
  cases ha : evE (envF l) a with
  | error z =>
    have hz := ev_err ha
    rw [ha] at ih
    rw [show evE (envF l) (.bin .mul a b) = .error z by simp only [evE, ha]]
    refine callOK_of TT_ok mixT Tryz.func22 rfl rfl (Nat.le_of_ble_eq_true rfl) ?_
    repeat (first | refine r_op rfl rfl rfl rfl ?_ | refine r_skip rfl rfl rfl ?_ | refine .done ?_ | refine r_seq (T := TT) ?_ | refine r_region (T := TT) rfl ?_ | refine r_block (T := TT) ?_ | refine r_then (T := TT) rfl ?_ | refine r_else (T := TT) rfl ?_)
    refine r_unroll 3 ?_
    refine r_round ⟨[(1, .d (dNm l)), (2, .d (dVl l)), (3, .box 0 0), (6, .box 1 0), (7, .d (dN .i64 0)), (12, .nil), (72, .d (.leaf (.sl 2 (cell7 o1 na1 xs1 nb1 ys1 nm1 n1 cs1 ++ cell7 o2 na2 xs2 nb2 ys2 nm2 n2 cs2)))), (73, .d (dN .i64 2)), (74, .d (dN .i64 0))], [(0, some ([.val (.int .i64 (B4.mul).code)] ++ aQ0 ++ [.val (vL []), .sl 2 (cell7 o1 na1 xs1 nb1 ys1 nm1 n1 cs1 ++ cell7 o2 na2 xs2 nb2 ys2 nm2 n2 cs2)])), (1, some aQt0)]⟩ (weak ⟨rfl, rfl, rfl, rfl, rfl, rfl, rfl, rfl, rfl, trivial⟩ ⟨rfl, rfl, trivial⟩ rfl) ?_
    repeat (first | refine r_op rfl rfl rfl rfl ?_ | refine r_skip rfl rfl rfl ?_ | refine .done ?_ | refine r_seq (T := TT) ?_ | refine r_region (T := TT) rfl ?_ | refine r_block (T := TT) ?_ | refine r_then (T := TT) rfl ?_ | refine r_else (T := TT) rfl ?_)
    refine r_idx (i := 0) (cs' := cell7 o1 na1 xs1 nb1 ys1 nm1 n1 cs1) (by decide) (arg_at2 _ _) (Nat.zero_lt_succ 6) rfl rfl rfl rfl rfl rfl rfl rfl ?_
    repeat (first | refine r_op rfl rfl rfl rfl ?_ | refine r_skip rfl rfl rfl ?_ | refine .done ?_ | refine r_seq (T := TT) ?_ | refine r_region (T := TT) rfl ?_ | refine r_block (T := TT) ?_ | refine r_then (T := TT) rfl ?_ | refine r_else (T := TT) rfl ?_)
    refine r_call (ih) rfl rfl rfl rfl rfl rfl rfl ?_
    repeat (first | refine r_op rfl rfl rfl rfl ?_ | refine r_skip rfl rfl rfl ?_ | refine .done ?_)
    repeat refine r_seq (T := TT) ?_
    refine r_region (T := TT) rfl ?_
    iterate 1 (first | refine r_op rfl rfl rfl rfl ?_ | refine r_skip rfl rfl rfl ?_)
    refine r_eq (v' := .bool true) rfl rfl rfl rfl ?_ ?_
    · exact congrArg Value.bool ((by simpa using hz))
    repeat (first | refine r_op rfl rfl rfl rfl ?_ | refine r_skip rfl rfl rfl ?_ | refine .done ?_ | refine r_seq (T := TT) ?_ | refine r_region (T := TT) rfl ?_ | refine r_block (T := TT) ?_ | refine r_then (T := TT) rfl ?_ | refine r_else (T := TT) rfl ?_)
    exact r_fin (T := TT) rfl rfl
  | ok x =>
    obtain ⟨hx, hpx⟩ := ev_ok henv ho ha
    rw [ha] at ih
    cases hb : evE (envF l) b with
    | error z =>
      have hz := ev_err hb
      rw [hb] at ih'
      rw [show evE (envF l) (.bin .mul a b) = .error z by simp only [evE, ha, hb]]
      refine callOK_of TT_ok mixT Tryz.func22 rfl rfl (Nat.le_of_ble_eq_true rfl) ?_
      repeat (first | refine r_op rfl rfl rfl rfl ?_ | refine r_skip rfl rfl rfl ?_ | refine .done ?_ | refine r_seq (T := TT) ?_ | refine r_region (T := TT) rfl ?_ | refine r_block (T := TT) ?_ | refine r_then (T := TT) rfl ?_ | refine r_else (T := TT) rfl ?_)
      refine r_unroll 3 ?_
      refine r_round ⟨[(1, .d (dNm l)), (2, .d (dVl l)), (3, .box 0 0), (6, .box 1 0), (7, .d (dN .i64 0)), (12, .nil), (72, .d (.leaf (.sl 2 (cell7 o1 na1 xs1 nb1 ys1 nm1 n1 cs1 ++ cell7 o2 na2 xs2 nb2 ys2 nm2 n2 cs2)))), (73, .d (dN .i64 2)), (74, .d (dN .i64 0))], [(0, some ([.val (.int .i64 (B4.mul).code)] ++ aQ0 ++ [.val (vL []), .sl 2 (cell7 o1 na1 xs1 nb1 ys1 nm1 n1 cs1 ++ cell7 o2 na2 xs2 nb2 ys2 nm2 n2 cs2)])), (1, some aQt0)]⟩ (weak ⟨rfl, rfl, rfl, rfl, rfl, rfl, rfl, rfl, rfl, trivial⟩ ⟨rfl, rfl, trivial⟩ rfl) ?_
      repeat (first | refine r_op rfl rfl rfl rfl ?_ | refine r_skip rfl rfl rfl ?_ | refine .done ?_ | refine r_seq (T := TT) ?_ | refine r_region (T := TT) rfl ?_ | refine r_block (T := TT) ?_ | refine r_then (T := TT) rfl ?_ | refine r_else (T := TT) rfl ?_)
      refine r_idx (i := 0) (cs' := cell7 o1 na1 xs1 nb1 ys1 nm1 n1 cs1) (by decide) (arg_at2 _ _) (Nat.zero_lt_succ 6) rfl rfl rfl rfl rfl rfl rfl rfl ?_
      repeat (first | refine r_op rfl rfl rfl rfl ?_ | refine r_skip rfl rfl rfl ?_ | refine .done ?_ | refine r_seq (T := TT) ?_ | refine r_region (T := TT) rfl ?_ | refine r_block (T := TT) ?_ | refine r_then (T := TT) rfl ?_ | refine r_else (T := TT) rfl ?_)
      refine r_call (ih) rfl rfl rfl rfl rfl rfl rfl ?_
      repeat (first | refine r_op rfl rfl rfl rfl ?_ | refine r_skip rfl rfl rfl ?_ | refine .done ?_ | refine r_seq (T := TT) ?_ | refine r_region (T := TT) rfl ?_ | refine r_block (T := TT) ?_ | refine r_then (T := TT) rfl ?_ | refine r_else (T := TT) rfl ?_)
      refine r_appC 5001 (m1 := 0) (m2 := 1) TT_ok (by decide) (by decide) rfl rfl rfl rfl rfl rfl rfl rfl rfl rfl rfl (.nil rfl rfl) rfl rfl rfl ?_
      repeat (first | refine r_op rfl rfl rfl rfl ?_ | refine r_skip rfl rfl rfl ?_ | refine .done ?_ | refine r_seq (T := TT) ?_ | refine r_region (T := TT) rfl ?_ | refine r_block (T := TT) ?_ | refine r_then (T := TT) rfl ?_ | refine r_else (T := TT) rfl ?_)
      refine r_round ⟨[(1, .d (dNm l)), (2, .d (dVl l)), (3, .box 0 0), (6, .box 1 0), (7, .d (dN .i64 0)), (12, .own 5001 1 5 28), (72, .d (.leaf (.sl 2 (cell7 o1 na1 xs1 nb1 ys1 nm1 n1 cs1 ++ cell7 o2 na2 xs2 nb2 ys2 nm2 n2 cs2)))), (73, .d (dN .i64 2)), (74, .d (dN .i64 1))], [(0, some ([.val (.int .i64 (B4.mul).code)] ++ aQ0 ++ [.val (vL []), .sl 2 (cell7 o1 na1 xs1 nb1 ys1 nm1 n1 cs1 ++ cell7 o2 na2 xs2 nb2 ys2 nm2 n2 cs2)])), (1, some aQt0), (5001, some (aQt x.1 x.2))]⟩ (weak ⟨rfl, rfl, rfl, rfl, rfl, rfl, rfl, rfl, rfl, trivial⟩ ⟨rfl, rfl, rfl, trivial⟩ rfl) ?_
      repeat (first | refine r_op rfl rfl rfl rfl ?_ | refine r_skip rfl rfl rfl ?_ | refine .done ?_ | refine r_seq (T := TT) ?_ | refine r_region (T := TT) rfl ?_ | refine r_block (T := TT) ?_ | refine r_then (T := TT) rfl ?_ | refine r_else (T := TT) rfl ?_)
      refine r_idx (i := 1) (cs' := cell7 o2 na2 xs2 nb2 ys2 nm2 n2 cs2) (by decide) (arg_at3 _ rfl) (Nat.zero_lt_succ 6) rfl rfl rfl rfl rfl rfl rfl rfl ?_
      repeat (first | refine r_op rfl rfl rfl rfl ?_ | refine r_skip rfl rfl rfl ?_ | refine .done ?_ | refine r_seq (T := TT) ?_ | refine r_region (T := TT) rfl ?_ | refine r_block (T := TT) ?_ | refine r_then (T := TT) rfl ?_ | refine r_else (T := TT) rfl ?_)
      refine r_call (ih') rfl rfl rfl rfl rfl rfl rfl ?_
      repeat (first | refine r_op rfl rfl rfl rfl ?_ | refine r_skip rfl rfl rfl ?_ | refine .done ?_)
      repeat refine r_seq (T := TT) ?_
      refine r_region (T := TT) rfl ?_
      iterate 1 (first | refine r_op rfl rfl rfl rfl ?_ | refine r_skip rfl rfl rfl ?_)
      refine r_eq (v' := .bool true) rfl rfl rfl rfl ?_ ?_
      · exact congrArg Value.bool ((by simpa using hz))
      repeat (first | refine r_op rfl rfl rfl rfl ?_ | refine r_skip rfl rfl rfl ?_ | refine .done ?_ | refine r_seq (T := TT) ?_ | refine r_region (T := TT) rfl ?_ | refine r_block (T := TT) ?_ | refine r_then (T := TT) rfl ?_ | refine r_else (T := TT) rfl ?_)
      exact r_fin (T := TT) rfl rfl
    | ok y =>
      obtain ⟨hy, hpy⟩ := ev_ok henv ho' hb
      rw [hb] at ih'
      have hR : evE (envF l) (.bin .mul a b) = opR .mul x.1 x.2 y.1 y.2 := by simp only [evE, ha, hb]
      rw [hR]
      show CallOK Tryz.prog _ _ (toRV (mulR x.1 x.2 y.1 y.2))
      have c := ok_u_Mul hx hy (by omega) hpx hpy
      cases hr : mulR x.1 x.2 y.1 y.2 with
      | error z =>
        rw [hr] at c
        refine callOK_of TT_ok mixT Tryz.func22 rfl rfl (Nat.le_of_ble_eq_true rfl) ?_
        repeat (first | refine r_op rfl rfl rfl rfl ?_ | refine r_skip rfl rfl rfl ?_ | refine .done ?_ | refine r_seq (T := TT) ?_ | refine r_region (T := TT) rfl ?_ | refine r_block (T := TT) ?_ | refine r_then (T := TT) rfl ?_ | refine r_else (T := TT) rfl ?_)
        refine r_unroll 3 ?_
        refine r_round ⟨[(1, .d (dNm l)), (2, .d (dVl l)), (3, .box 0 0), (6, .box 1 0), (7, .d (dN .i64 0)), (12, .nil), (72, .d (.leaf (.sl 2 (cell7 o1 na1 xs1 nb1 ys1 nm1 n1 cs1 ++ cell7 o2 na2 xs2 nb2 ys2 nm2 n2 cs2)))), (73, .d (dN .i64 2)), (74, .d (dN .i64 0))], [(0, some ([.val (.int .i64 (B4.mul).code)] ++ aQ0 ++ [.val (vL []), .sl 2 (cell7 o1 na1 xs1 nb1 ys1 nm1 n1 cs1 ++ cell7 o2 na2 xs2 nb2 ys2 nm2 n2 cs2)])), (1, some aQt0)]⟩ (weak ⟨rfl, rfl, rfl, rfl, rfl, rfl, rfl, rfl, rfl, trivial⟩ ⟨rfl, rfl, trivial⟩ rfl) ?_
        repeat (first | refine r_op rfl rfl rfl rfl ?_ | refine r_skip rfl rfl rfl ?_ | refine .done ?_ | refine r_seq (T := TT) ?_ | refine r_region (T := TT) rfl ?_ | refine r_block (T := TT) ?_ | refine r_then (T := TT) rfl ?_ | refine r_else (T := TT) rfl ?_)
        refine r_idx (i := 0) (cs' := cell7 o1 na1 xs1 nb1 ys1 nm1 n1 cs1) (by decide) (arg_at2 _ _) (Nat.zero_lt_succ 6) rfl rfl rfl rfl rfl rfl rfl rfl ?_
        repeat (first | refine r_op rfl rfl rfl rfl ?_ | refine r_skip rfl rfl rfl ?_ | refine .done ?_ | refine r_seq (T := TT) ?_ | refine r_region (T := TT) rfl ?_ | refine r_block (T := TT) ?_ | refine r_then (T := TT) rfl ?_ | refine r_else (T := TT) rfl ?_)
        refine r_call (ih) rfl rfl rfl rfl rfl rfl rfl ?_
        repeat (first | refine r_op rfl rfl rfl rfl ?_ | refine r_skip rfl rfl rfl ?_ | refine .done ?_ | refine r_seq (T := TT) ?_ | refine r_region (T := TT) rfl ?_ | refine r_block (T := TT) ?_ | refine r_then (T := TT) rfl ?_ | refine r_else (T := TT) rfl ?_)
        refine r_appC 5001 (m1 := 0) (m2 := 1) TT_ok (by decide) (by decide) rfl rfl rfl rfl rfl rfl rfl rfl rfl rfl rfl (.nil rfl rfl) rfl rfl rfl ?_
        repeat (first | refine r_op rfl rfl rfl rfl ?_ | refine r_skip rfl rfl rfl ?_ | refine .done ?_ | refine r_seq (T := TT) ?_ | refine r_region (T := TT) rfl ?_ | refine r_block (T := TT) ?_ | refine r_then (T := TT) rfl ?_ | refine r_else (T := TT) rfl ?_)
        refine r_round ⟨[(1, .d (dNm l)), (2, .d (dVl l)), (3, .box 0 0), (6, .box 1 0), (7, .d (dN .i64 0)), (12, .own 5001 1 5 28), (72, .d (.leaf (.sl 2 (cell7 o1 na1 xs1 nb1 ys1 nm1 n1 cs1 ++ cell7 o2 na2 xs2 nb2 ys2 nm2 n2 cs2)))), (73, .d (dN .i64 2)), (74, .d (dN .i64 1))], [(0, some ([.val (.int .i64 (B4.mul).code)] ++ aQ0 ++ [.val (vL []), .sl 2 (cell7 o1 na1 xs1 nb1 ys1 nm1 n1 cs1 ++ cell7 o2 na2 xs2 nb2 ys2 nm2 n2 cs2)])), (1, some aQt0), (5001, some (aQt x.1 x.2))]⟩ (weak ⟨rfl, rfl, rfl, rfl, rfl, rfl, rfl, rfl, rfl, trivial⟩ ⟨rfl, rfl, rfl, trivial⟩ rfl) ?_
        repeat (first | refine r_op rfl rfl rfl rfl ?_ | refine r_skip rfl rfl rfl ?_ | refine .done ?_ | refine r_seq (T := TT) ?_ | refine r_region (T := TT) rfl ?_ | refine r_block (T := TT) ?_ | refine r_then (T := TT) rfl ?_ | refine r_else (T := TT) rfl ?_)
        refine r_idx (i := 1) (cs' := cell7 o2 na2 xs2 nb2 ys2 nm2 n2 cs2) (by decide) (arg_at3 _ rfl) (Nat.zero_lt_succ 6) rfl rfl rfl rfl rfl rfl rfl rfl ?_
        repeat (first | refine r_op rfl rfl rfl rfl ?_ | refine r_skip rfl rfl rfl ?_ | refine .done ?_ | refine r_seq (T := TT) ?_ | refine r_region (T := TT) rfl ?_ | refine r_block (T := TT) ?_ | refine r_then (T := TT) rfl ?_ | refine r_else (T := TT) rfl ?_)
        refine r_call (ih') rfl rfl rfl rfl rfl rfl rfl ?_
        repeat (first | refine r_op rfl rfl rfl rfl ?_ | refine r_skip rfl rfl rfl ?_ | refine .done ?_ | refine r_seq (T := TT) ?_ | refine r_region (T := TT) rfl ?_ | refine r_block (T := TT) ?_ | refine r_then (T := TT) rfl ?_ | refine r_else (T := TT) rfl ?_)
        refine r_appC 5002 (m1 := 1) (m2 := 1) TT_ok (by decide) (by decide) rfl rfl rfl rfl rfl rfl rfl rfl rfl rfl rfl (.own rfl rfl) rfl rfl rfl ?_
        repeat (first | refine r_op rfl rfl rfl rfl ?_ | refine r_skip rfl rfl rfl ?_ | refine .done ?_ | refine r_seq (T := TT) ?_ | refine r_region (T := TT) rfl ?_ | refine r_block (T := TT) ?_ | refine r_then (T := TT) rfl ?_ | refine r_else (T := TT) rfl ?_)
        refine r_round ⟨[(1, .d (dNm l)), (2, .d (dVl l)), (3, .box 0 0), (6, .box 1 0), (7, .d (dN .i64 0)), (12, .own 5002 2 5 28), (72, .d (.leaf (.sl 2 (cell7 o1 na1 xs1 nb1 ys1 nm1 n1 cs1 ++ cell7 o2 na2 xs2 nb2 ys2 nm2 n2 cs2)))), (73, .d (dN .i64 2)), (74, .d (dN .i64 2))], [(0, some ([.val (.int .i64 (B4.mul).code)] ++ aQ0 ++ [.val (vL []), .sl 2 (cell7 o1 na1 xs1 nb1 ys1 nm1 n1 cs1 ++ cell7 o2 na2 xs2 nb2 ys2 nm2 n2 cs2)])), (1, some aQt0), (5002, some (aQt x.1 x.2 ++ aQt y.1 y.2))]⟩ (weak ⟨rfl, rfl, rfl, rfl, rfl, rfl, rfl, rfl, rfl, trivial⟩ ⟨rfl, rfl, rfl, trivial⟩ rfl) ?_
        repeat (first | refine r_op rfl rfl rfl rfl ?_ | refine r_skip rfl rfl rfl ?_ | refine .done ?_ | refine r_seq (T := TT) ?_ | refine r_region (T := TT) rfl ?_ | refine r_block (T := TT) ?_ | refine r_then (T := TT) rfl ?_ | refine r_else (T := TT) rfl ?_)
        refine r_oidx (i := 0) (by decide) rfl rfl rfl rfl rfl rfl rfl rfl rfl ?_
        iterate 2 (first | refine r_op rfl rfl rfl rfl ?_ | refine r_skip rfl rfl rfl ?_)
        refine r_oidx (i := 1) (by decide) rfl rfl rfl rfl rfl rfl rfl rfl rfl ?_
        iterate 1 (first | refine r_op rfl rfl rfl rfl ?_ | refine r_skip rfl rfl rfl ?_)
        refine r_call (c) rfl rfl rfl rfl rfl rfl rfl ?_
        repeat (first | refine r_op rfl rfl rfl rfl ?_ | refine r_skip rfl rfl rfl ?_ | refine .done ?_ | refine r_seq (T := TT) ?_ | refine r_region (T := TT) rfl ?_ | refine r_block (T := TT) ?_ | refine r_then (T := TT) rfl ?_ | refine r_else (T := TT) rfl ?_)
        exact r_fin (T := TT) rfl rfl
      | ok z =>
        rw [hr] at c
        refine callOK_of TT_ok mixT Tryz.func22 rfl rfl (Nat.le_of_ble_eq_true rfl) ?_
        repeat (first | refine r_op rfl rfl rfl rfl ?_ | refine r_skip rfl rfl rfl ?_ | refine .done ?_ | refine r_seq (T := TT) ?_ | refine r_region (T := TT) rfl ?_ | refine r_block (T := TT) ?_ | refine r_then (T := TT) rfl ?_ | refine r_else (T := TT) rfl ?_)
        refine r_unroll 3 ?_
        refine r_round ⟨[(1, .d (dNm l)), (2, .d (dVl l)), (3, .box 0 0), (6, .box 1 0), (7, .d (dN .i64 0)), (12, .nil), (72, .d (.leaf (.sl 2 (cell7 o1 na1 xs1 nb1 ys1 nm1 n1 cs1 ++ cell7 o2 na2 xs2 nb2 ys2 nm2 n2 cs2)))), (73, .d (dN .i64 2)), (74, .d (dN .i64 0))], [(0, some ([.val (.int .i64 (B4.mul).code)] ++ aQ0 ++ [.val (vL []), .sl 2 (cell7 o1 na1 xs1 nb1 ys1 nm1 n1 cs1 ++ cell7 o2 na2 xs2 nb2 ys2 nm2 n2 cs2)])), (1, some aQt0)]⟩ (weak ⟨rfl, rfl, rfl, rfl, rfl, rfl, rfl, rfl, rfl, trivial⟩ ⟨rfl, rfl, trivial⟩ rfl) ?_
        repeat (first | refine r_op rfl rfl rfl rfl ?_ | refine r_skip rfl rfl rfl ?_ | refine .done ?_ | refine r_seq (T := TT) ?_ | refine r_region (T := TT) rfl ?_ | refine r_block (T := TT) ?_ | refine r_then (T := TT) rfl ?_ | refine r_else (T := TT) rfl ?_)
        refine r_idx (i := 0) (cs' := cell7 o1 na1 xs1 nb1 ys1 nm1 n1 cs1) (by decide) (arg_at2 _ _) (Nat.zero_lt_succ 6) rfl rfl rfl rfl rfl rfl rfl rfl ?_
        repeat (first | refine r_op rfl rfl rfl rfl ?_ | refine r_skip rfl rfl rfl ?_ | refine .done ?_ | refine r_seq (T := TT) ?_ | refine r_region (T := TT) rfl ?_ | refine r_block (T := TT) ?_ | refine r_then (T := TT) rfl ?_ | refine r_else (T := TT) rfl ?_)
        refine r_call (ih) rfl rfl rfl rfl rfl rfl rfl ?_
        repeat (first | refine r_op rfl rfl rfl rfl ?_ | refine r_skip rfl rfl rfl ?_ | refine .done ?_ | refine r_seq (T := TT) ?_ | refine r_region (T := TT) rfl ?_ | refine r_block (T := TT) ?_ | refine r_then (T := TT) rfl ?_ | refine r_else (T := TT) rfl ?_)
        refine r_appC 5001 (m1 := 0) (m2 := 1) TT_ok (by decide) (by decide) rfl rfl rfl rfl rfl rfl rfl rfl rfl rfl rfl (.nil rfl rfl) rfl rfl rfl ?_
        repeat (first | refine r_op rfl rfl rfl rfl ?_ | refine r_skip rfl rfl rfl ?_ | refine .done ?_ | refine r_seq (T := TT) ?_ | refine r_region (T := TT) rfl ?_ | refine r_block (T := TT) ?_ | refine r_then (T := TT) rfl ?_ | refine r_else (T := TT) rfl ?_)
        refine r_round ⟨[(1, .d (dNm l)), (2, .d (dVl l)), (3, .box 0 0), (6, .box 1 0), (7, .d (dN .i64 0)), (12, .own 5001 1 5 28), (72, .d (.leaf (.sl 2 (cell7 o1 na1 xs1 nb1 ys1 nm1 n1 cs1 ++ cell7 o2 na2 xs2 nb2 ys2 nm2 n2 cs2)))), (73, .d (dN .i64 2)), (74, .d (dN .i64 1))], [(0, some ([.val (.int .i64 (B4.mul).code)] ++ aQ0 ++ [.val (vL []), .sl 2 (cell7 o1 na1 xs1 nb1 ys1 nm1 n1 cs1 ++ cell7 o2 na2 xs2 nb2 ys2 nm2 n2 cs2)])), (1, some aQt0), (5001, some (aQt x.1 x.2))]⟩ (weak ⟨rfl, rfl, rfl, rfl, rfl, rfl, rfl, rfl, rfl, trivial⟩ ⟨rfl, rfl, rfl, trivial⟩ rfl) ?_
        repeat (first | refine r_op rfl rfl rfl rfl ?_ | refine r_skip rfl rfl rfl ?_ | refine .done ?_ | refine r_seq (T := TT) ?_ | refine r_region (T := TT) rfl ?_ | refine r_block (T := TT) ?_ | refine r_then (T := TT) rfl ?_ | refine r_else (T := TT) rfl ?_)
        refine r_idx (i := 1) (cs' := cell7 o2 na2 xs2 nb2 ys2 nm2 n2 cs2) (by decide) (arg_at3 _ rfl) (Nat.zero_lt_succ 6) rfl rfl rfl rfl rfl rfl rfl rfl ?_
        repeat (first | refine r_op rfl rfl rfl rfl ?_ | refine r_skip rfl rfl rfl ?_ | refine .done ?_ | refine r_seq (T := TT) ?_ | refine r_region (T := TT) rfl ?_ | refine r_block (T := TT) ?_ | refine r_then (T := TT) rfl ?_ | refine r_else (T := TT) rfl ?_)
        refine r_call (ih') rfl rfl rfl rfl rfl rfl rfl ?_
        repeat (first | refine r_op rfl rfl rfl rfl ?_ | refine r_skip rfl rfl rfl ?_ | refine .done ?_ | refine r_seq (T := TT) ?_ | refine r_region (T := TT) rfl ?_ | refine r_block (T := TT) ?_ | refine r_then (T := TT) rfl ?_ | refine r_else (T := TT) rfl ?_)
        refine r_appC 5002 (m1 := 1) (m2 := 1) TT_ok (by decide) (by decide) rfl rfl rfl rfl rfl rfl rfl rfl rfl rfl rfl (.own rfl rfl) rfl rfl rfl ?_
        repeat (first | refine r_op rfl rfl rfl rfl ?_ | refine r_skip rfl rfl rfl ?_ | refine .done ?_ | refine r_seq (T := TT) ?_ | refine r_region (T := TT) rfl ?_ | refine r_block (T := TT) ?_ | refine r_then (T := TT) rfl ?_ | refine r_else (T := TT) rfl ?_)
        refine r_round ⟨[(1, .d (dNm l)), (2, .d (dVl l)), (3, .box 0 0), (6, .box 1 0), (7, .d (dN .i64 0)), (12, .own 5002 2 5 28), (72, .d (.leaf (.sl 2 (cell7 o1 na1 xs1 nb1 ys1 nm1 n1 cs1 ++ cell7 o2 na2 xs2 nb2 ys2 nm2 n2 cs2)))), (73, .d (dN .i64 2)), (74, .d (dN .i64 2))], [(0, some ([.val (.int .i64 (B4.mul).code)] ++ aQ0 ++ [.val (vL []), .sl 2 (cell7 o1 na1 xs1 nb1 ys1 nm1 n1 cs1 ++ cell7 o2 na2 xs2 nb2 ys2 nm2 n2 cs2)])), (1, some aQt0), (5002, some (aQt x.1 x.2 ++ aQt y.1 y.2))]⟩ (weak ⟨rfl, rfl, rfl, rfl, rfl, rfl, rfl, rfl, rfl, trivial⟩ ⟨rfl, rfl, rfl, trivial⟩ rfl) ?_
        repeat (first | refine r_op rfl rfl rfl rfl ?_ | refine r_skip rfl rfl rfl ?_ | refine .done ?_ | refine r_seq (T := TT) ?_ | refine r_region (T := TT) rfl ?_ | refine r_block (T := TT) ?_ | refine r_then (T := TT) rfl ?_ | refine r_else (T := TT) rfl ?_)
        refine r_oidx (i := 0) (by decide) rfl rfl rfl rfl rfl rfl rfl rfl rfl ?_
        iterate 2 (first | refine r_op rfl rfl rfl rfl ?_ | refine r_skip rfl rfl rfl ?_)
        refine r_oidx (i := 1) (by decide) rfl rfl rfl rfl rfl rfl rfl rfl rfl ?_
        iterate 1 (first | refine r_op rfl rfl rfl rfl ?_ | refine r_skip rfl rfl rfl ?_)
        refine r_call (c) rfl rfl rfl rfl rfl rfl rfl ?_
        repeat (first | refine r_op rfl rfl rfl rfl ?_ | refine r_skip rfl rfl rfl ?_ | refine .done ?_ | refine r_seq (T := TT) ?_ | refine r_region (T := TT) rfl ?_ | refine r_block (T := TT) ?_ | refine r_then (T := TT) rfl ?_ | refine r_else (T := TT) rfl ?_)
        exact r_fin (T := TT) rfl rfl
set_option maxHeartbeats 4000000 in
theorem ok_u_Eval_div {a b : Ex} (henv : EnvOK (envF l)) (ho : okE a) (ho' : okE b) (hw : wtE a + wtE b ≤ 1000000) (ih : CallOK Tryz.prog 22 [dE a, dNm l, dVl l] (toRV (evE (envF l) a))) (ih' : CallOK Tryz.prog 22 [dE b, dNm l, dVl l] (toRV (evE (envF l) b))) : CallOK Tryz.prog 22 [dE (.bin .div a b), dNm l, dVl l] (toRV (evE (envF l) (.bin .div a b))) := by
  obtain ⟨o1, na1, xs1, nb1, ys1, nm1, n1, cs1, hA⟩ := aE_form a
  obtain ⟨o2, na2, xs2, nb2, ys2, nm2, n2, cs2, hB⟩ := aE_form b
  rw [show dE (.bin .div a b) = .agg ([.val (.int .i64 (B4.div).code)] ++ aQ0 ++ [.val (vL []), .sl 2 (aE a ++ aE b)]) from congrArg DV.agg (aE_bin .div a b), hA, hB]
  rw [show dE a = .agg (cell7 o1 na1 xs1 nb1 ys1 nm1 n1 cs1) from congrArg DV.agg hA] at ih
  rw [show dE b = .agg (cell7 o2 na2 xs2 nb2 ys2 nm2 n2 cs2) from congrArg DV.agg hB] at ih'
  cases ha : evE (envF l) a with
  | error z =>
    have hz := ev_err ha
    rw [ha] at ih
    rw [show evE (envF l) (.bin .div a b) = .error z by simp only [evE, ha]]
    refine callOK_of TT_ok mixT Tryz.func22 rfl rfl (Nat.le_of_ble_eq_true rfl) ?_
    repeat (first | refine r_op rfl rfl rfl rfl ?_ | refine r_skip rfl rfl rfl ?_ | refine .done ?_ | refine r_seq (T := TT) ?_ | refine r_region (T := TT) rfl ?_ | refine r_block (T := TT) ?_ | refine r_then (T := TT) rfl ?_ | refine r_else (T := TT) rfl ?_)
    refine r_unroll 3 ?_
    refine r_round ⟨[(1, .d (dNm l)), (2, .d (dVl l)), (3, .box 0 0), (6, .box 1 0), (7, .d (dN .i64 0)), (12, .nil), (72, .d (.leaf (.sl 2 (cell7 o1 na1 xs1 nb1 ys1 nm1 n1 cs1 ++ cell7 o2 na2 xs2 nb2 ys2 nm2 n2 cs2)))), (73, .d (dN .i64 2)), (74, .d (dN .i64 0))], [(0, some ([.val (.int .i64 (B4.div).code)] ++ aQ0 ++ [.val (vL []), .sl 2 (cell7 o1 na1 xs1 nb1 ys1 nm1 n1 cs1 ++ cell7 o2 na2 xs2 nb2 ys2 nm2 n2 cs2)])), (1, some aQt0)]⟩ (weak ⟨rfl, rfl, rfl, rfl, rfl, rfl, rfl, rfl, rfl, trivial⟩ ⟨rfl, rfl, trivial⟩ rfl) ?_
    repeat (first | refine r_op rfl rfl rfl rfl ?_ | refine r_skip rfl rfl rfl ?_ | refine .done ?_ | refine r_seq (T := TT) ?_ | refine r_region (T := TT) rfl ?_ | refine r_block (T := TT) ?_ | refine r_then (T := TT) rfl ?_ | refine r_else (T := TT) rfl ?_)
    refine r_idx (i := 0) (cs' := cell7 o1 na1 xs1 nb1 ys1 nm1 n1 cs1) (by decide) (arg_at2 _ _) (Nat.zero_lt_succ 6) rfl rfl rfl rfl rfl rfl rfl rfl ?_
    repeat (first | refine r_op rfl rfl rfl rfl ?_ | refine r_skip rfl rfl rfl ?_ | refine .done ?_ | refine r_seq (T := TT) ?_ | refine r_region (T := TT) rfl ?_ | refine r_block (T := TT) ?_ | refine r_then (T := TT) rfl ?_ | refine r_else (T := TT) rfl ?_)
    refine r_call (ih) rfl rfl rfl rfl rfl rfl rfl ?_
    repeat (first | refine r_op rfl rfl rfl rfl ?_ | refine r_skip rfl rfl rfl ?_ | refine .done ?_)
    repeat refine r_seq (T := TT) ?_
    refine r_region (T := TT) rfl ?_
    iterate 1 (first | refine r_op rfl rfl rfl rfl ?_ | refine r_skip rfl rfl rfl ?_)
    refine r_eq (v' := .bool true) rfl rfl rfl rfl ?_ ?_
    · exact congrArg Value.bool ((by simpa using hz))
    repeat (first | refine r_op rfl rfl rfl rfl ?_ | refine r_skip rfl rfl rfl ?_ | refine .done ?_ | refine r_seq (T := TT) ?_ | refine r_region (T := TT) rfl ?_ | refine r_block (T := TT) ?_ | refine r_then (T := TT) rfl ?_ | refine r_else (T := TT) rfl ?_)
    exact r_fin (T := TT) rfl rfl
  | ok x =>
    obtain ⟨hx, hpx⟩ := ev_ok henv ho ha
    rw [ha] at ih
    cases hb : evE (envF l) b with
    | error z =>
      have hz := ev_err hb
      rw [hb] at ih'
      rw [show evE (envF l) (.bin .div a b) = .error z by simp only [evE, ha, hb]]
      refine callOK_of TT_ok mixT Tryz.func22 rfl rfl (Nat.le_of_ble_eq_true rfl) ?_
      repeat (first | refine r_op rfl rfl rfl rfl ?_ | refine r_skip rfl rfl rfl ?_ | refine .done ?_ | refine r_seq (T := TT) ?_ | refine r_region (T := TT) rfl ?_ | refine r_block (T := TT) ?_ | refine r_then (T := TT) rfl ?_ | refine r_else (T := TT) rfl ?_)
      refine r_unroll 3 ?_
      refine r_round ⟨[(1, .d (dNm l)), (2, .d (dVl l)), (3, .box 0 0), (6, .box 1 0), (7, .d (dN .i64 0)), (12, .nil), (72, .d (.leaf (.sl 2 (cell7 o1 na1 xs1 nb1 ys1 nm1 n1 cs1 ++ cell7 o2 na2 xs2 nb2 ys2 nm2 n2 cs2)))), (73, .d (dN .i64 2)), (74, .d (dN .i64 0))], [(0, some ([.val (.int .i64 (B4.div).code)] ++ aQ0 ++ [.val (vL []), .sl 2 (cell7 o1 na1 xs1 nb1 ys1 nm1 n1 cs1 ++ cell7 o2 na2 xs2 nb2 ys2 nm2 n2 cs2)])), (1, some aQt0)]⟩ (weak ⟨rfl, rfl, rfl, rfl, rfl, rfl, rfl, rfl, rfl, trivial⟩ ⟨rfl, rfl, trivial⟩ rfl) ?_
      repeat (first | refine r_op rfl rfl rfl rfl ?_ | refine r_skip rfl rfl rfl ?_ | refine .done ?_ | refine r_seq (T := TT) ?_ | refine r_region (T := TT) rfl ?_ | refine r_block (T := TT) ?_ | refine r_then (T := TT) rfl ?_ | refine r_else (T := TT) rfl ?_)
      refine r_idx (i := 0) (cs' := cell7 o1 na1 xs1 nb1 ys1 nm1 n1 cs1) (by decide) (arg_at2 _ _) (Nat.zero_lt_succ 6) rfl rfl rfl rfl rfl rfl rfl rfl ?_
      repeat (first | refine r_op rfl rfl rfl rfl ?_ | refine r_skip rfl rfl rfl ?_ | refine .done ?_ | refine r_seq (T := TT) ?_ | refine r_region (T := TT) rfl ?_ | refine r_block (T := TT) ?_ | refine r_then (T := TT) rfl ?_ | refine r_else (T := TT) rfl ?_)
      refine r_call (ih) rfl rfl rfl rfl rfl rfl rfl ?_
      repeat (first | refine r_op rfl rfl rfl rfl ?_ | refine r_skip rfl rfl rfl ?_ | refine .done ?_ | refine r_seq (T := TT) ?_ | refine r_region (T := TT) rfl ?_ | refine r_block (T := TT) ?_ | refine r_then (T := TT) rfl ?_ | refine r_else (T := TT) rfl ?_)
      refine r_appC 5001 (m1 := 0) (m2 := 1) TT_ok (by decide) (by decide) rfl rfl rfl rfl rfl rfl rfl rfl rfl rfl rfl (.nil rfl rfl) rfl rfl rfl ?_
      repeat (first | refine r_op rfl rfl rfl rfl ?_ | refine r_skip rfl rfl rfl ?_ | refine .done ?_ | refine r_seq (T := TT) ?_ | refine r_region (T := TT) rfl ?_ | refine r_block (T := TT) ?_ | refine r_then (T := TT) rfl ?_ | refine r_else (T := TT) rfl ?_)
      refine r_round ⟨[(1, .d (dNm l)), (2, .d (dVl l)), (3, .box 0 0), (6, .box 1 0), (7, .d (dN .i64 0)), (12, .own 5001 1 5 28), (72, .d (.leaf (.sl 2 (cell7 o1 na1 xs1 nb1 ys1 nm1 n1 cs1 ++ cell7 o2 na2 xs2 nb2 ys2 nm2 n2 cs2)))), (73, .d (dN .i64 2)), (74, .d (dN .i64 1))], [(0, some ([.val (.int .i64 (B4.div).code)] ++ aQ0 ++ [.val (vL []), .sl 2 (cell7 o1 na1 xs1 nb1 ys1 nm1 n1 cs1 ++ cell7 o2 na2 xs2 nb2 ys2 nm2 n2 cs2)])), (1, some aQt0), (5001, some (aQt x.1 x.2))]⟩ (weak ⟨rfl, rfl, rfl, rfl, rfl, rfl, rfl, rfl, rfl, trivial⟩ ⟨rfl, rfl, rfl, trivial⟩ rfl) ?_
      repeat (first | refine r_op rfl rfl rfl rfl ?_ | refine r_skip rfl rfl rfl ?_ | refine .done ?_ | refine r_seq (T := TT) ?_ | refine r_region (T := TT) rfl ?_ | refine r_block (T := TT) ?_ | refine r_then (T := TT) rfl ?_ | refine r_else (T := TT) rfl ?_)
      refine r_idx (i := 1) (cs' := cell7 o2 na2 xs2 nb2 ys2 nm2 n2 cs2) (by decide) (arg_at3 _ rfl) (Nat.zero_lt_succ 6) rfl rfl rfl rfl rfl rfl rfl rfl ?_
      repeat (first | refine r_op rfl rfl rfl rfl ?_ | refine r_skip rfl rfl rfl ?_ | refine .done ?_ | refine r_seq (T := TT) ?_ | refine r_region (T := TT) rfl ?_ | refine r_block (T := TT) ?_ | refine r_then (T := TT) rfl ?_ | refine r_else (T := TT) rfl ?_)
      refine r_call (ih') rfl rfl rfl rfl rfl rfl rfl ?_
      repeat (first | refine r_op rfl rfl rfl rfl ?_ | refine r_skip rfl rfl rfl ?_ | refine .done ?_)
      repeat refine r_seq (T := TT) ?_
      refine r_region (T := TT) rfl ?_
      iterate 1 (first | refine r_op rfl rfl rfl rfl ?_ | refine r_skip rfl rfl rfl ?_)
      refine r_eq (v' := .bool true) rfl rfl rfl rfl ?_ ?_
      · exact congrArg Value.bool ((by simpa using hz))
      repeat (first | refine r_op rfl rfl rfl rfl ?_ | refine r_skip rfl rfl rfl ?_ | refine .done ?_ | refine r_seq (T := TT) ?_ | refine r_region (T := TT) rfl ?_ | refine r_block (T := TT) ?_ | refine r_then (T := TT) rfl ?_ | refine r_else (T := TT) rfl ?_)
      exact r_fin (T := TT) rfl rfl
    | ok y =>
      obtain ⟨hy, hpy⟩ := ev_ok henv ho' hb
      rw [hb] at ih'
      have hR : evE (envF l) (.bin .div a b) = opR .div x.1 x.2 y.1 y.2 := by simp only [evE, ha, hb]
      rw [hR]
      show CallOK Tryz.prog _ _ (toRV (divR x.1 x.2 y.1 y.2))
      have c := ok_u_Div hx hy (by omega) hpx hpy
      cases hr : divR x.1 x.2 y.1 y.2 with
      | error z =>
        rw [hr] at c
        refine callOK_of TT_ok mixT Tryz.func22 rfl rfl (Nat.le_of_ble_eq_true rfl) ?_
        repeat (first | refine r_op rfl rfl rfl rfl ?_ | refine r_skip rfl rfl rfl ?_ | refine .done ?_ | refine r_seq (T := TT) ?_ | refine r_region (T := TT) rfl ?_ | refine r_block (T := TT) ?_ | refine r_then (T := TT) rfl ?_ | refine r_else (T := TT) rfl ?_)
        refine r_unroll 3 ?_
        refine r_round ⟨[(1, .d (dNm l)), (2, .d (dVl l)), (3, .box 0 0), (6, .box 1 0), (7, .d (dN .i64 0)), (12, .nil), (72, .d (.leaf (.sl 2 (cell7 o1 na1 xs1 nb1 ys1 nm1 n1 cs1 ++ cell7 o2 na2 xs2 nb2 ys2 nm2 n2 cs2)))), (73, .d (dN .i64 2)), (74, .d (dN .i64 0))], [(0, some ([.val (.int .i64 (B4.div).code)] ++ aQ0 ++ [.val (vL []), .sl 2 (cell7 o1 na1 xs1 nb1 ys1 nm1 n1 cs1 ++ cell7 o2 na2 xs2 nb2 ys2 nm2 n2 cs2)])), (1, some aQt0)]⟩ (weak ⟨rfl, rfl, rfl, rfl, rfl, rfl, rfl, rfl, rfl, trivial⟩ ⟨rfl, rfl, trivial⟩ rfl) ?_
        repeat (first | refine r_op rfl rfl rfl rfl ?_ | refine r_skip rfl rfl rfl ?_ | refine .done ?_ | refine r_seq (T := TT) ?_ | refine r_region (T := TT) rfl ?_ | refine r_block (T := TT) ?_ | refine r_then (T := TT) rfl ?_ | refine r_else (T := TT) rfl ?_)
        refine r_idx (i := 0) (cs' := cell7 o1 na1 xs1 nb1 ys1 nm1 n1 cs1) (by decide) (arg_at2 _ _) (Nat.zero_lt_succ 6) rfl rfl rfl rfl rfl rfl rfl rfl ?_
        repeat (first | refine r_op rfl rfl rfl rfl ?_ | refine r_skip rfl rfl rfl ?_ | refine .done ?_ | refine r_seq (T := TT) ?_ | refine r_region (T := TT) rfl ?_ | refine r_block (T := TT) ?_ | refine r_then (T := TT) rfl ?_ | refine r_else (T := TT) rfl ?_)
        refine r_call (ih) rfl rfl rfl rfl rfl rfl rfl ?_
        repeat (first | refine r_op rfl rfl rfl rfl ?_ | refine r_skip rfl rfl rfl ?_ | refine .done ?_ | refine r_seq (T := TT) ?_ | refine r_region (T := TT) rfl ?_ | refine r_block (T := TT) ?_ | refine r_then (T := TT) rfl ?_ | refine r_else (T := TT) rfl ?_)
        refine r_appC 5001 (m1 := 0) (m2 := 1) TT_ok (by decide) (by decide) rfl rfl rfl rfl rfl rfl rfl rfl rfl rfl rfl (.nil rfl rfl) rfl rfl rfl ?_
        repeat (first | refine r_op rfl rfl rfl rfl ?_ | refine r_skip rfl rfl rfl ?_ | refine .done ?_ | refine r_seq (T := TT) ?_ | refine r_region (T := TT) rfl ?_ | refine r_block (T := TT) ?_ | refine r_then (T := TT) rfl ?_ | refine r_else (T := TT) rfl ?_)
        refine r_round ⟨[(1, .d (dNm l)), (2, .d (dVl l)), (3, .box 0 0), (6, .box 1 0), (7, .d (dN .i64 0)), (12, .own 5001 1 5 28), (72, .d (.leaf (.sl 2 (cell7 o1 na1 xs1 nb1 ys1 nm1 n1 cs1 ++ cell7 o2 na2 xs2 nb2 ys2 nm2 n2 cs2)))), (73, .d (dN .i64 2)), (74, .d (dN .i64 1))], [(0, some ([.val (.int .i64 (B4.div).code)] ++ aQ0 ++ [.val (vL []), .sl 2 (cell7 o1 na1 xs1 nb1 ys1 nm1 n1 cs1 ++ cell7 o2 na2 xs2 nb2 ys2 nm2 n2 cs2)])), (1, some aQt0), (5001, some (aQt x.1 x.2))]⟩ (weak ⟨rfl, rfl, rfl, rfl, rfl, rfl, rfl, rfl, rfl, trivial⟩ ⟨rfl, rfl, rfl, trivial⟩ rfl) ?_
        repeat (first | refine r_op rfl rfl rfl rfl ?_ | refine r_skip rfl rfl rfl ?_ | refine .done ?_ | refine r_seq (T := TT) ?_ | refine r_region (T := TT) rfl ?_ | refine r_block (T := TT) ?_ | refine r_then (T := TT) rfl ?_ | refine r_else (T := TT) rfl ?_)
        refine r_idx (i := 1) (cs' := cell7 o2 na2 xs2 nb2 ys2 nm2 n2 cs2) (by decide) (arg_at3 _ rfl) (Nat.zero_lt_succ 6) rfl rfl rfl rfl rfl rfl rfl rfl ?_
        repeat (first | refine r_op rfl rfl rfl rfl ?_ | refine r_skip rfl rfl rfl ?_ | refine .done ?_ | refine r_seq (T := TT) ?_ | refine r_region (T := TT) rfl ?_ | refine r_block (T := TT) ?_ | refine r_then (T := TT) rfl ?_ | refine r_else (T := TT) rfl ?_)
        refine r_call (ih') rfl rfl rfl rfl rfl rfl rfl ?_
        repeat (first | refine r_op rfl rfl rfl rfl ?_ | refine r_skip rfl rfl rfl ?_ | refine .done ?_ | refine r_seq (T := TT) ?_ | refine r_region (T := TT) rfl ?_ | refine r_block (T := TT) ?_ | refine r_then (T := TT) rfl ?_ | refine r_else (T := TT) rfl ?_)
        refine r_appC 5002 (m1 := 1) (m2 := 1) TT_ok (by decide) (by decide) rfl rfl rfl rfl rfl rfl rfl rfl rfl rfl rfl (.own rfl rfl) rfl rfl rfl ?_
        repeat (first | refine r_op rfl rfl rfl rfl ?_ | refine r_skip rfl rfl rfl ?_ | refine .done ?_ | refine r_seq (T := TT) ?_ | refine r_region (T := TT) rfl ?_ | refine r_block (T := TT) ?_ | refine r_then (T := TT) rfl ?_ | refine r_else (T := TT) rfl ?_)
        refine r_round ⟨[(1, .d (dNm l)), (2, .d (dVl l)), (3, .box 0 0), (6, .box 1 0), (7, .d (dN .i64 0)), (12, .own 5002 2 5 28), (72, .d (.leaf (.sl 2 (cell7 o1 na1 xs1 nb1 ys1 nm1 n1 cs1 ++ cell7 o2 na2 xs2 nb2 ys2 nm2 n2 cs2)))), (73, .d (dN .i64 2)), (74, .d (dN .i64 2))], [(0, some ([.val (.int .i64 (B4.div).code)] ++ aQ0 ++ [.val (vL []), .sl 2 (cell7 o1 na1 xs1 nb1 ys1 nm1 n1 cs1 ++ cell7 o2 na2 xs2 nb2 ys2 nm2 n2 cs2)])), (1, some aQt0), (5002, some (aQt x.1 x.2 ++ aQt y.1 y.2))]⟩ (weak ⟨rfl, rfl, rfl, rfl, rfl, rfl, rfl, rfl, rfl, trivial⟩ ⟨rfl, rfl, rfl, trivial⟩ rfl) ?_
        repeat (first | refine r_op rfl rfl rfl rfl ?_ | refine r_skip rfl rfl rfl ?_ | refine .done ?_ | refine r_seq (T := TT) ?_ | refine r_region (T := TT) rfl ?_ | refine r_block (T := TT) ?_ | refine r_then (T := TT) rfl ?_ | refine r_else (T := TT) rfl ?_)
        refine r_oidx (i := 0) (by decide) rfl rfl rfl rfl rfl rfl rfl rfl rfl ?_
        iterate 2 (first | refine r_op rfl rfl rfl rfl ?_ | refine r_skip rfl rfl rfl ?_)
        refine r_oidx (i := 1) (by decide) rfl rfl rfl rfl rfl rfl rfl rfl rfl ?_
        iterate 1 (first | refine r_op rfl rfl rfl rfl ?_ | refine r_skip rfl rfl rfl ?_)
        refine r_call (c) rfl rfl rfl rfl rfl rfl rfl ?_
        repeat (first | refine r_op rfl rfl rfl rfl ?_ | refine r_skip rfl rfl rfl ?_ | refine .done ?_ | refine r_seq (T := TT) ?_ | refine r_region (T := TT) rfl ?_ | refine r_block (T := TT) ?_ | refine r_then (T := TT) rfl ?_ | refine r_else (T := TT) rfl ?_)
        exact r_fin (T := TT) rfl rfl
      | ok z =>
        rw [hr] at c
        refine callOK_of TT_ok mixT Tryz.func22 rfl rfl (Nat.le_of_ble_eq_true rfl) ?_
        repeat (first | refine r_op rfl rfl rfl rfl ?_ | refine r_skip rfl rfl rfl ?_ | refine .done ?_ | refine r_seq (T := TT) ?_ | refine r_region (T := TT) rfl ?_ | refine r_block (T := TT) ?_ | refine r_then (T := TT) rfl ?_ | refine r_else (T := TT) rfl ?_)
        refine r_unroll 3 ?_
        refine r_round ⟨[(1, .d (dNm l)), (2, .d (dVl l)), (3, .box 0 0), (6, .box 1 0), (7, .d (dN .i64 0)), (12, .nil), (72, .d (.leaf (.sl 2 (cell7 o1 na1 xs1 nb1 ys1 nm1 n1 cs1 ++ cell7 o2 na2 xs2 nb2 ys2 nm2 n2 cs2)))), (73, .d (dN .i64 2)), (74, .d (dN .i64 0))], [(0, some ([.val (.int .i64 (B4.div).code)] ++ aQ0 ++ [.val (vL []), .sl 2 (cell7 o1 na1 xs1 nb1 ys1 nm1 n1 cs1 ++ cell7 o2 na2 xs2 nb2 ys2 nm2 n2 cs2)])), (1, some aQt0)]⟩ (weak ⟨rfl, rfl, rfl, rfl, rfl, rfl, rfl, rfl, rfl, trivial⟩ ⟨rfl, rfl, trivial⟩ rfl) ?_
        repeat (first | refine r_op rfl rfl rfl rfl ?_ | refine r_skip rfl rfl rfl ?_ | refine .done ?_ | refine r_seq (T := TT) ?_ | refine r_region (T := TT) rfl ?_ | refine r_block (T := TT) ?_ | refine r_then (T := TT) rfl ?_ | refine r_else (T := TT) rfl ?_)
        refine r_idx (i := 0) (cs' := cell7 o1 na1 xs1 nb1 ys1 nm1 n1 cs1) (by decide) (arg_at2 _ _) (Nat.zero_lt_succ 6) rfl rfl rfl rfl rfl rfl rfl rfl ?_
        repeat (first | refine r_op rfl rfl rfl rfl ?_ | refine r_skip rfl rfl rfl ?_ | refine .done ?_ | refine r_seq (T := TT) ?_ | refine r_region (T := TT) rfl ?_ | refine r_block (T := TT) ?_ | refine r_then (T := TT) rfl ?_ | refine r_else (T := TT) rfl ?_)
        refine r_call (ih) rfl rfl rfl rfl rfl rfl rfl ?_
        repeat (first | refine r_op rfl rfl rfl rfl ?_ | refine r_skip rfl rfl rfl ?_ | refine .done ?_ | refine r_seq (T := TT) ?_ | refine r_region (T := TT) rfl ?_ | refine r_block (T := TT) ?_ | refine r_then (T := TT) rfl ?_ | refine r_else (T := TT) rfl ?_)
        refine r_appC 5001 (m1 := 0) (m2 := 1) TT_ok (by decide) (by decide) rfl rfl rfl rfl rfl rfl rfl rfl rfl rfl rfl (.nil rfl rfl) rfl rfl rfl ?_
        repeat (first | refine r_op rfl rfl rfl rfl ?_ | refine r_skip rfl rfl rfl ?_ | refine .done ?_ | refine r_seq (T := TT) ?_ | refine r_region (T := TT) rfl ?_ | refine r_block (T := TT) ?_ | refine r_then (T := TT) rfl ?_ | refine r_else (T := TT) rfl ?_)
        refine r_round ⟨[(1, .d (dNm l)), (2, .d (dVl l)), (3, .box 0 0), (6, .box 1 0), (7, .d (dN .i64 0)), (12, .own 5001 1 5 28), (72, .d (.leaf (.sl 2 (cell7 o1 na1 xs1 nb1 ys1 nm1 n1 cs1 ++ cell7 o2 na2 xs2 nb2 ys2 nm2 n2 cs2)))), (73, .d (dN .i64 2)), (74, .d (dN .i64 1))], [(0, some ([.val (.int .i64 (B4.div).code)] ++ aQ0 ++ [.val (vL []), .sl 2 (cell7 o1 na1 xs1 nb1 ys1 nm1 n1 cs1 ++ cell7 o2 na2 xs2 nb2 ys2 nm2 n2 cs2)])), (1, some aQt0), (5001, some (aQt x.1 x.2))]⟩ (weak ⟨rfl, rfl, rfl, rfl, rfl, rfl, rfl, rfl, rfl, trivial⟩ ⟨rfl, rfl, rfl, trivial⟩ rfl) ?_
        repeat (first | refine r_op rfl rfl rfl rfl ?_ | refine r_skip rfl rfl rfl ?_ | refine .done ?_ | refine r_seq (T := TT) ?_ | refine r_region (T := TT) rfl ?_ | refine r_block (T := TT) ?_ | refine r_then (T := TT) rfl ?_ | refine r_else (T := TT) rfl ?_)
        refine r_idx (i := 1) (cs' := cell7 o2 na2 xs2 nb2 ys2 nm2 n2 cs2) (by decide) (arg_at3 _ rfl) (Nat.zero_lt_succ 6) rfl rfl rfl rfl rfl rfl rfl rfl ?_
        repeat (first | refine r_op rfl rfl rfl rfl ?_ | refine r_skip rfl rfl rfl ?_ | refine .done ?_ | refine r_seq (T := TT) ?_ | refine r_region (T := TT) rfl ?_ | refine r_block (T := TT) ?_ | refine r_then (T := TT) rfl ?_ | refine r_else (T := TT) rfl ?_)
        refine r_call (ih') rfl rfl rfl rfl rfl rfl rfl ?_
        repeat (first | refine r_op rfl rfl rfl rfl ?_ | refine r_skip rfl rfl rfl ?_ | refine .done ?_ | refine r_seq (T := TT) ?_ | refine r_region (T := TT) rfl ?_ | refine r_block (T := TT) ?_ | refine r_then (T := TT) rfl ?_ | refine r_else (T := TT) rfl ?_)
        refine r_appC 5002 (m1 := 1) (m2 := 1) TT_ok (by decide) (by decide) rfl rfl rfl rfl rfl rfl rfl rfl rfl rfl rfl (.own rfl rfl) rfl rfl rfl ?_
        repeat (first | refine r_op rfl rfl rfl rfl ?_ | refine r_skip rfl rfl rfl ?_ | refine .done ?_ | refine r_seq (T := TT) ?_ | refine r_region (T := TT) rfl ?_ | refine r_block (T := TT) ?_ | refine r_then (T := TT) rfl ?_ | refine r_else (T := TT) rfl ?_)
        refine r_round ⟨[(1, .d (dNm l)), (2, .d (dVl l)), (3, .box 0 0), (6, .box 1 0), (7, .d (dN .i64 0)), (12, .own 5002 2 5 28), (72, .d (.leaf (.sl 2 (cell7 o1 na1 xs1 nb1 ys1 nm1 n1 cs1 ++ cell7 o2 na2 xs2 nb2 ys2 nm2 n2 cs2)))), (73, .d (dN .i64 2)), (74, .d (dN .i64 2))], [(0, some ([.val (.int .i64 (B4.div).code)] ++ aQ0 ++ [.val (vL []), .sl 2 (cell7 o1 na1 xs1 nb1 ys1 nm1 n1 cs1 ++ cell7 o2 na2 xs2 nb2 ys2 nm2 n2 cs2)])), (1, some aQt0), (5002, some (aQt x.1 x.2 ++ aQt y.1 y.2))]⟩ (weak ⟨rfl, rfl, rfl, rfl, rfl, rfl, rfl, rfl, rfl, trivial⟩ ⟨rfl, rfl, rfl, trivial⟩ rfl) ?_
        repeat (first | refine r_op rfl rfl rfl rfl ?_ | refine r_skip rfl rfl rfl ?_ | refine .done ?_ | refine r_seq (T := TT) ?_ | refine r_region (T := TT) rfl ?_ | refine r_block (T := TT) ?_ | refine r_then (T := TT) rfl ?_ | refine r_else (T := TT) rfl ?_)
        refine r_oidx (i := 0) (by decide) rfl rfl rfl rfl rfl rfl rfl rfl rfl ?_
        iterate 2 (first | refine r_op rfl rfl rfl rfl ?_ | refine r_skip rfl rfl rfl ?_)
        refine r_oidx (i := 1) (by decide) rfl rfl rfl rfl rfl rfl rfl rfl rfl ?_
        iterate 1 (first | refine r_op rfl rfl rfl rfl ?_ | refine r_skip rfl rfl rfl ?_)
        refine r_call (c) rfl rfl rfl rfl rfl rfl rfl ?_
        repeat (first | refine r_op rfl rfl rfl rfl ?_ | refine r_skip rfl rfl rfl ?_ | refine .done ?_ | refine r_seq (T := TT) ?_ | refine r_region (T := TT) rfl ?_ | refine r_block (T := TT) ?_ | refine r_then (T := TT) rfl ?_ | refine r_else (T := TT) rfl ?_)
        exact r_fin (T := TT) rfl rfl
end
end Go.Proofs.YtmpadildchphgaaGreatDoor
