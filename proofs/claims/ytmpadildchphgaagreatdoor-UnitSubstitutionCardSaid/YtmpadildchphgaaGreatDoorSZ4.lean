/- Parts of a proof: contracts of the functions that the laws reach. -/
import Derived.Test.YtmpadildchphgaaGreatDoorSZ3
import Derived.Test.YtmpadildchphgaaGreatDoorSLaw
import Derived.Test.YtmpadildchphgaaGreatDoorSZ1
import Derived.Test.YtmpadildchphgaaGreatDoorTie
import Derived.Test.YtmpadildchphgaaGreatDoorCards
import Derived.LaidMore
import Derived.Lay
import Derived.Stop.Joined
import Derived.SevenTiedAt
import Derived.Test.YtmpadildchphgaaGreatDoorSZ2
import Derived.ChangeMaps5
namespace Go.Proofs.YtmpadildchphgaaGreatDoor
open Go.RowKit
def opR : B4 → Rat → Int → Rat → Int → QR
  | .add, a, p, b, p' => addR a p b p'
  | .sub, a, p, b, p' => addR a p (-b) p'
  | .mul, a, p, b, p' => mulR a p b p'
  | .div, a, p, b, p' => divR a p b p'
def evE (env : List UInt8 → Option (Rat × Int)) : Ex → QR
  | .num v u => if u = [] then .ok (v, 0) else match fac u with
    | some q => .ok (v * q, 1)
    | none => .error 8
  | .nam s => match env s with
    | some x => .ok x
    | none => .error 4
  | .neg a => match evE env a with
    | .ok x => .ok (-x.1, x.2)
    | .error e => .error e
  | .bin k a b => match evE env a with
    | .error e => .error e
    | .ok x => match evE env b with
      | .error e => .error e
      | .ok y => opR k x.1 x.2 y.1 y.2
def wtE : Ex → Nat
  | .num _ _ => 9
  | .nam _ => 400
  | .neg a => wtE a
  | .bin _ a b => wtE a + wtE b + 1
def okE : Ex → Prop
  | .num v _ => SzQ 8 v
  | .nam _ => True
  | .neg a => okE a
  | .bin _ a b => okE a ∧ okE b
theorem opR_err {k : B4} {a b : Rat} {p p' z : Int} (h : opR k a p b p' = .error z) : z = 6 ∨ z = 8 := by
  cases k <;> simp only [opR, addR, mulR, divR] at h
  · split at h <;> cases h; exact .inr rfl
  · split at h <;> cases h; exact .inr rfl
  · split at h <;> cases h; exact .inr rfl
  · split at h
    · cases h; exact .inl rfl
    · split at h <;> cases h; exact .inr rfl
theorem ev_err {env : List UInt8 → Option (Rat × Int)} : ∀ {e : Ex} {z : Int}, evE env e = .error z → z ≠ 0
  | .num v u, z, h => by
    simp only [evE] at h
    split at h
    · cases h
    · split at h <;> cases h
      decide
  | .nam s, z, h => by
    simp only [evE] at h
    split at h <;> cases h
    decide
  | .neg a, z, h => by
    simp only [evE] at h
    split at h
    · cases h
    · rename_i e he; cases h; exact ev_err he
  | .bin k a b, z, h => by
    simp only [evE] at h
    split at h
    · rename_i e he; cases h; exact ev_err he
    · split at h
      · rename_i e he; cases h; exact ev_err he
      · rcases opR_err h with rfl | rfl <;> decide
def EnvOK (env : List UInt8 → Option (Rat × Int)) : Prop := ∀ s x, env s = some x → SzQ 400 x.1 ∧ inP x.2 = true
theorem opR_ok {k : B4} {i j : Nat} {a b : Rat} {p p' : Int} {x : Rat × Int} (h1 : SzQ i a) (h2 : SzQ j b) (hp : inP p = true) (h : opR k a p b p' = .ok x) : SzQ (i + j + 1) x.1 ∧ inP x.2 = true := by
  cases k <;> simp only [opR, addR, mulR, divR] at h
  · split at h <;> cases h; exact ⟨h1.add h2, hp⟩
  · split at h <;> cases h; exact ⟨h1.add h2.neg, hp⟩
  · split at h <;> cases h; exact ⟨(h1.mul h2).mono (by omega), by assumption⟩
  · split at h
    · cases h
    · split at h <;> cases h
      exact ⟨(h1.div h2 (by assumption)).mono (by omega), by assumption⟩
theorem ev_ok {env : List UInt8 → Option (Rat × Int)} (henv : EnvOK env) : ∀ {e : Ex} {x : Rat × Int}, okE e → evE env e = .ok x → SzQ (wtE e) x.1 ∧ inP x.2 = true
  | .num v u, x, ho, h => by
    simp only [evE] at h
    have ho : SzQ 8 v := ho
    split at h
    · cases h; exact ⟨ho.mono (show 8 ≤ 9 by decide), rfl⟩
    · split at h
      · rename_i q hq
        cases h
        exact ⟨ho.mul (fac_sz hq).1, rfl⟩
      · cases h
  | .nam s, x, _, h => by
    simp only [evE] at h
    split at h
    · rename_i y hy; cases h; exact henv s _ hy
    · cases h
  | .neg a, x, ho, h => by
    simp only [evE] at h
    split at h
    · rename_i y hy
      cases h
      have := ev_ok henv (e := a) ho hy
      exact ⟨this.1.neg, this.2⟩
    · cases h
  | .bin k a b, x, ho, h => by
    simp only [evE] at h
    split at h
    · cases h
    · rename_i y hy
      split at h
      · cases h
      · rename_i z hz
        have h1 := ev_ok henv ho.1 hy
        have h2 := ev_ok henv ho.2 hz
        exact opR_ok h1.1 h2.1 h1.2 h
theorem env_of {l : EL} (hv : ∀ x ∈ l, SzQ 400 x.2.1 ∧ inP x.2.2 = true) : EnvOK (envF l) := by
  intro s x h
  induction l with
  | nil => cases h
  | cons y l ih =>
    simp only [envF] at h
    split at h
    · cases h; exact hv y (by simp)
    · exact ih (fun x hx => hv x (by simp [hx])) h
theorem q_plus0 (a : Rat) : a + ((0 : Int) : Rat) = a := Rat.add_zero a
theorem s_zero : SzQ 1 ((0 : Int) : Rat) := ⟨.small (by decide), .small (by decide)⟩
section
variable {l : EL}
set_option maxHeartbeats 1000000 in
theorem ok_u_Eval_num {v : Rat} {u : List UInt8} (h : SzQ 8 v) : CallOK Tryz.prog 22 [dE (.num v u), dNm l, dVl l] (toRV (evE (envF l) (.num v u))) := by
  by_cases hu : u = []
  · rw [show evE (envF l) (.num v u) = .ok (v, 0) from if_pos hu]
    refine callOK_of TT_ok mixT Tryz.func22 rfl rfl (Nat.le_of_ble_eq_true rfl) ?_
    repeat refine r_seq (T := TT) ?_
    refine r_region (T := TT) rfl ?_
    repeat (first | refine r_op rfl rfl rfl rfl ?_ | refine r_skip rfl rfl rfl ?_)
    try refine .done ?_
    repeat refine r_seq (T := TT) ?_
    refine r_region (T := TT) rfl ?_
    repeat (first | refine r_op rfl rfl rfl rfl ?_ | refine r_skip rfl rfl rfl ?_)
    try refine .done ?_
    repeat (first | refine r_seq (T := TT) ?_ | refine r_block (T := TT) ?_)
    refine r_region (T := TT) rfl ?_
    repeat (first | refine r_op rfl rfl rfl rfl ?_ | refine r_skip rfl rfl rfl ?_ | refine .done ?_)
    refine r_then (T := TT) rfl ?_
    repeat (first | refine r_seq (T := TT) ?_ | refine r_block (T := TT) ?_)
    refine r_region (T := TT) rfl ?_
    iterate 2 (first | refine r_op rfl rfl rfl rfl ?_ | refine r_skip rfl rfl rfl ?_)
    refine r_bin rfl rfl rfl rfl rfl rfl rfl (binV_eqT (a := u) (b := []) hu) ?_
    repeat (first | refine r_op rfl rfl rfl rfl ?_ | refine r_skip rfl rfl rfl ?_ | refine .done ?_ | refine r_seq (T := TT) ?_ | refine r_region (T := TT) rfl ?_ | refine r_block (T := TT) ?_ | refine r_then (T := TT) rfl ?_ | refine r_else (T := TT) rfl ?_)
    refine r_call (ok_q_FromInt 0 (by decide) (by decide) rfl) rfl rfl rfl rfl rfl rfl rfl ?_
    refine r_call (ok_q_Add h s_zero (by decide) (q_plus0 v)) rfl rfl rfl rfl rfl rfl rfl ?_
    repeat (first | refine r_op rfl rfl rfl rfl ?_ | refine r_skip rfl rfl rfl ?_ | refine .done ?_ | refine r_seq (T := TT) ?_ | refine r_region (T := TT) rfl ?_ | refine r_block (T := TT) ?_ | refine r_then (T := TT) rfl ?_ | refine r_else (T := TT) rfl ?_)
    exact r_fin (T := TT) rfl rfl
  · have c1 := ok_u_Factor u
    unfold facR at c1
    cases hf : fac u with
    | none =>
      rw [hf] at c1
      rw [show evE (envF l) (.num v u) = .error 8 by simp only [evE, if_neg hu, hf]]
      refine callOK_of TT_ok mixT Tryz.func22 rfl rfl (Nat.le_of_ble_eq_true rfl) ?_
      repeat refine r_seq (T := TT) ?_
      refine r_region (T := TT) rfl ?_
      repeat (first | refine r_op rfl rfl rfl rfl ?_ | refine r_skip rfl rfl rfl ?_)
      try refine .done ?_
      repeat refine r_seq (T := TT) ?_
      refine r_region (T := TT) rfl ?_
      repeat (first | refine r_op rfl rfl rfl rfl ?_ | refine r_skip rfl rfl rfl ?_)
      try refine .done ?_
      repeat (first | refine r_seq (T := TT) ?_ | refine r_block (T := TT) ?_)
      refine r_region (T := TT) rfl ?_
      repeat (first | refine r_op rfl rfl rfl rfl ?_ | refine r_skip rfl rfl rfl ?_ | refine .done ?_)
      refine r_then (T := TT) rfl ?_
      repeat (first | refine r_seq (T := TT) ?_ | refine r_block (T := TT) ?_)
      refine r_region (T := TT) rfl ?_
      iterate 2 (first | refine r_op rfl rfl rfl rfl ?_ | refine r_skip rfl rfl rfl ?_)
      refine r_bin rfl rfl rfl rfl rfl rfl rfl (binV_eqF (a := u) (b := []) hu) ?_
      repeat (first | refine r_op rfl rfl rfl rfl ?_ | refine r_skip rfl rfl rfl ?_ | refine .done ?_ | refine r_seq (T := TT) ?_ | refine r_region (T := TT) rfl ?_ | refine r_block (T := TT) ?_ | refine r_then (T := TT) rfl ?_ | refine r_else (T := TT) rfl ?_)
      refine r_call (c1) rfl rfl rfl rfl rfl rfl rfl ?_
      repeat (first | refine r_op rfl rfl rfl rfl ?_ | refine r_skip rfl rfl rfl ?_ | refine .done ?_ | refine r_seq (T := TT) ?_ | refine r_region (T := TT) rfl ?_ | refine r_block (T := TT) ?_ | refine r_then (T := TT) rfl ?_ | refine r_else (T := TT) rfl ?_)
      exact r_fin (T := TT) rfl rfl
    | some q =>
      rw [hf] at c1
      rw [show evE (envF l) (.num v u) = .ok (v * q, 1) by simp only [evE, if_neg hu, hf]]
      refine callOK_of TT_ok mixT Tryz.func22 rfl rfl (Nat.le_of_ble_eq_true rfl) ?_
      repeat refine r_seq (T := TT) ?_
      refine r_region (T := TT) rfl ?_
      repeat (first | refine r_op rfl rfl rfl rfl ?_ | refine r_skip rfl rfl rfl ?_)
      try refine .done ?_
      repeat refine r_seq (T := TT) ?_
      refine r_region (T := TT) rfl ?_
      repeat (first | refine r_op rfl rfl rfl rfl ?_ | refine r_skip rfl rfl rfl ?_)
      try refine .done ?_
      repeat (first | refine r_seq (T := TT) ?_ | refine r_block (T := TT) ?_)
      refine r_region (T := TT) rfl ?_
      repeat (first | refine r_op rfl rfl rfl rfl ?_ | refine r_skip rfl rfl rfl ?_ | refine .done ?_)
      refine r_then (T := TT) rfl ?_
      repeat (first | refine r_seq (T := TT) ?_ | refine r_block (T := TT) ?_)
      refine r_region (T := TT) rfl ?_
      iterate 2 (first | refine r_op rfl rfl rfl rfl ?_ | refine r_skip rfl rfl rfl ?_)
      refine r_bin rfl rfl rfl rfl rfl rfl rfl (binV_eqF (a := u) (b := []) hu) ?_
      repeat (first | refine r_op rfl rfl rfl rfl ?_ | refine r_skip rfl rfl rfl ?_ | refine .done ?_ | refine r_seq (T := TT) ?_ | refine r_region (T := TT) rfl ?_ | refine r_block (T := TT) ?_ | refine r_then (T := TT) rfl ?_ | refine r_else (T := TT) rfl ?_)
      refine r_call (c1) rfl rfl rfl rfl rfl rfl rfl ?_
      repeat (first | refine r_op rfl rfl rfl rfl ?_ | refine r_skip rfl rfl rfl ?_ | refine .done ?_ | refine r_seq (T := TT) ?_ | refine r_region (T := TT) rfl ?_ | refine r_block (T := TT) ?_ | refine r_then (T := TT) rfl ?_ | refine r_else (T := TT) rfl ?_)
      refine r_call (ok_q_Mul h (fac_sz hf).1 (by decide) rfl) rfl rfl rfl rfl rfl rfl rfl ?_
      repeat (first | refine r_op rfl rfl rfl rfl ?_ | refine r_skip rfl rfl rfl ?_ | refine .done ?_ | refine r_seq (T := TT) ?_ | refine r_region (T := TT) rfl ?_ | refine r_block (T := TT) ?_ | refine r_then (T := TT) rfl ?_ | refine r_else (T := TT) rfl ?_)
      exact r_fin (T := TT) rfl rfl
set_option maxHeartbeats 1000000 in
theorem ok_u_Eval_nam {s : List UInt8} (hs : Sorted l) (hl : l.length ≤ 1000000) (hv : ∀ x ∈ l, SzQ 400 x.2.1 ∧ inP x.2.2 = true) : CallOK Tryz.prog 22 [dE (.nam s), dNm l, dVl l] (toRV (evE (envF l) (.nam s))) := by
  obtain ⟨i, b, c1, h1, h2⟩ := bsearch l hs hl s
  cases b with
  | false =>
    rw [show evE (envF l) (.nam s) = .error 4 by simp only [evE, envF_none (h2 rfl)]]
    refine callOK_of TT_ok mixT Tryz.func22 rfl rfl (Nat.le_of_ble_eq_true rfl) ?_
    repeat (first | refine r_op rfl rfl rfl rfl ?_ | refine r_skip rfl rfl rfl ?_ | refine .done ?_ | refine r_seq (T := TT) ?_ | refine r_region (T := TT) rfl ?_ | refine r_block (T := TT) ?_ | refine r_then (T := TT) rfl ?_ | refine r_else (T := TT) rfl ?_)
    refine r_call (c1) rfl rfl rfl rfl rfl rfl rfl ?_
    repeat (first | refine r_op rfl rfl rfl rfl ?_ | refine r_skip rfl rfl rfl ?_ | refine .done ?_ | refine r_seq (T := TT) ?_ | refine r_region (T := TT) rfl ?_ | refine r_block (T := TT) ?_ | refine r_then (T := TT) rfl ?_ | refine r_else (T := TT) rfl ?_)
    exact r_fin (T := TT) rfl rfl
  | true =>
    obtain ⟨x, hx, e⟩ := h1 rfl
    have hi : i < l.length := (List.getElem?_eq_some_iff.1 hx).1
    have hsz := (hv x (List.mem_of_getElem? hx)).1
    rw [show evE (envF l) (.nam s) = .ok x.2 by simp only [evE, ← e, envF_at hs hx]]
    refine callOK_of TT_ok mixT Tryz.func22 rfl rfl (Nat.le_of_ble_eq_true rfl) ?_
    repeat (first | refine r_op rfl rfl rfl rfl ?_ | refine r_skip rfl rfl rfl ?_ | refine .done ?_ | refine r_seq (T := TT) ?_ | refine r_region (T := TT) rfl ?_ | refine r_block (T := TT) ?_ | refine r_then (T := TT) rfl ?_ | refine r_else (T := TT) rfl ?_)
    refine r_call (c1) rfl rfl rfl rfl rfl rfl rfl ?_
    repeat (first | refine r_op rfl rfl rfl rfl ?_ | refine r_skip rfl rfl rfl ?_ | refine .done ?_ | refine r_seq (T := TT) ?_ | refine r_region (T := TT) rfl ?_ | refine r_block (T := TT) ?_ | refine r_then (T := TT) rfl ?_ | refine r_else (T := TT) rfl ?_)
    refine r_idx (i := i) (cs' := aQt x.2.1 x.2.2) hi (vl_at hx) (Nat.zero_lt_succ 4) rfl rfl rfl rfl rfl rfl rfl rfl ?_
    iterate 2 (first | refine r_op rfl rfl rfl rfl ?_ | refine r_skip rfl rfl rfl ?_)
    refine r_call (ok_q_FromInt 0 (by decide) (by decide) rfl) rfl rfl rfl rfl rfl rfl rfl ?_
    refine r_call (ok_q_Add hsz s_zero (by decide) (q_plus0 x.2.1)) rfl rfl rfl rfl rfl rfl rfl ?_
    iterate 2 (first | refine r_op rfl rfl rfl rfl ?_ | refine r_skip rfl rfl rfl ?_)
    refine r_idx (i := i) (cs' := aQt x.2.1 x.2.2) hi (vl_at hx) (Nat.zero_lt_succ 4) rfl rfl rfl rfl rfl rfl rfl rfl ?_
    repeat (first | refine r_op rfl rfl rfl rfl ?_ | refine r_skip rfl rfl rfl ?_ | refine .done ?_ | refine r_seq (T := TT) ?_ | refine r_region (T := TT) rfl ?_ | refine r_block (T := TT) ?_ | refine r_then (T := TT) rfl ?_ | refine r_else (T := TT) rfl ?_)
    exact r_fin (T := TT) rfl rfl
def cell7 (o : Int) (na : Bool) (xs : List Nat) (nb : Bool) (ys : List Nat) (nm : List UInt8) (n : Nat) (cs : List AV) : List AV := [.val (.int .i64 o), .val (.bool na), aW xs, .val (.bool nb), aW ys, .val (vL nm), .sl n cs]
theorem aE_form (a : Ex) : ∃ o na xs nb ys nm n cs, aE a = cell7 o na xs nb ys nm n cs := by
  unfold aE
  generalize rx a = x
  obtain ⟨op, na, xs, nb, ys, nm, args⟩ := x
  exact ⟨op, na, xs, nb, ys, nm, args.length, aRs args, rfl⟩
theorem arg_at1 (a : List AV) : ∀ (j : Nat) (x : AV), a[j]? = some x → a[0 * 7 + j]? = some x := fun j x h => by rw [Nat.zero_mul, Nat.zero_add]; exact h
theorem arg_at2 (a b : List AV) : ∀ (j : Nat) (x : AV), a[j]? = some x → (a ++ b)[0 * 7 + j]? = some x := fun j x h => by
  rw [Nat.zero_mul, Nat.zero_add, List.getElem?_append_left (List.getElem?_eq_some_iff.1 h).1]; exact h
theorem arg_at3 {a : List AV} (b : List AV) (ha : a.length = 7) : ∀ (j : Nat) (x : AV), b[j]? = some x → (a ++ b)[1 * 7 + j]? = some x := fun j x h => by
  rw [List.getElem?_append_right (by rw [ha]; omega), ha, show 1 * 7 + j - 7 = j by omega]; exact h
set_option maxHeartbeats 2000000 in
theorem ok_u_Eval_neg {a : Ex} (henv : EnvOK (envF l)) (ho : okE a) (hw : wtE a ≤ 1000000) (ih : CallOK Tryz.prog 22 [dE a, dNm l, dVl l] (toRV (evE (envF l) a))) : CallOK Tryz.prog 22 [dE (.neg a), dNm l, dVl l] (toRV (evE (envF l) (.neg a))) := by
  obtain ⟨o1, na1, xs1, nb1, ys1, nm1, n1, cs1, hA⟩ := aE_form a
  rw [show dE (.neg a) = .agg ([.val (.int .i64 3)] ++ aQ0 ++ [.val (vL []), .sl 1 (aE a)]) from congrArg DV.agg (aE_neg a), hA]
  rw [show dE a = .agg (cell7 o1 na1 xs1 nb1 ys1 nm1 n1 cs1) from congrArg DV.agg hA] at ih
  cases ha : evE (envF l) a with
  | error z =>
    have hz := ev_err ha
    rw [ha] at ih
    rw [show evE (envF l) (.neg a) = .error z by simp only [evE, ha]]
    refine callOK_of TT_ok mixT Tryz.func22 rfl rfl (Nat.le_of_ble_eq_true rfl) ?_
    repeat (first | refine r_op rfl rfl rfl rfl ?_ | refine r_skip rfl rfl rfl ?_ | refine .done ?_ | refine r_seq (T := TT) ?_ | refine r_region (T := TT) rfl ?_ | refine r_block (T := TT) ?_ | refine r_then (T := TT) rfl ?_ | refine r_else (T := TT) rfl ?_)
    refine r_unroll 2 ?_
    refine r_round ⟨[(1, .d (dNm l)), (2, .d (dVl l)), (3, .box 0 0), (6, .box 1 0), (7, .d (dN .i64 0)), (12, .nil), (72, .d (.leaf (.sl 1 (cell7 o1 na1 xs1 nb1 ys1 nm1 n1 cs1)))), (73, .d (dN .i64 1)), (74, .d (dN .i64 0))], [(0, some ([.val (.int .i64 3)] ++ aQ0 ++ [.val (vL []), .sl 1 (cell7 o1 na1 xs1 nb1 ys1 nm1 n1 cs1)])), (1, some aQt0)]⟩ (weak ⟨rfl, rfl, rfl, rfl, rfl, rfl, rfl, rfl, rfl, trivial⟩ ⟨rfl, rfl, trivial⟩ rfl) ?_
    repeat (first | refine r_op rfl rfl rfl rfl ?_ | refine r_skip rfl rfl rfl ?_ | refine .done ?_ | refine r_seq (T := TT) ?_ | refine r_region (T := TT) rfl ?_ | refine r_block (T := TT) ?_ | refine r_then (T := TT) rfl ?_ | refine r_else (T := TT) rfl ?_)
    refine r_idx (i := 0) (cs' := cell7 o1 na1 xs1 nb1 ys1 nm1 n1 cs1) (by decide) (arg_at1 _) (Nat.zero_lt_succ 6) rfl rfl rfl rfl rfl rfl rfl rfl ?_
    repeat (first | refine r_op rfl rfl rfl rfl ?_ | refine r_skip rfl rfl rfl ?_ | refine .done ?_ | refine r_seq (T := TT) ?_ | refine r_region (T := TT) rfl ?_ | refine r_block (T := TT) ?_ | refine r_then (T := TT) rfl ?_ | refine r_else (T := TT) rfl ?_)
    refine r_call (ih) rfl rfl rfl rfl rfl rfl rfl ?_
    repeat (first | refine r_op rfl rfl rfl rfl ?_ | refine r_skip rfl rfl rfl ?_ | refine .done ?_)
    repeat refine r_seq (T := TT) ?_
    refine r_region (T := TT) rfl ?_
    iterate 1 (first | refine r_op rfl rfl rfl rfl ?_ | refine r_skip rfl rfl rfl ?_)
    refine r_eq (v' := .bool true) rfl rfl rfl rfl ?_ ?_
    · exact congrArg Value.bool ((by simpa using hz))
    repeat (first | refine r_op rfl rfl rfl rfl ?_ | refine r_skip rfl rfl rfl ?_ | refine .done ?_ | refine r_seq (T := TT) ?_ | refine r_region (T := TT) rfl ?_ | refine r_block (T := TT) ?_ | refine r_then (T := TT) rfl ?_ | refine r_else (T := TT) rfl ?_)
    exact r_fin (T := TT) rfl rfl
  | ok x =>
    obtain ⟨hx, hp⟩ := ev_ok henv ho ha
    rw [ha] at ih
    rw [show evE (envF l) (.neg a) = .ok (-x.1, x.2) by simp only [evE, ha]]
    refine callOK_of TT_ok mixT Tryz.func22 rfl rfl (Nat.le_of_ble_eq_true rfl) ?_
    repeat (first | refine r_op rfl rfl rfl rfl ?_ | refine r_skip rfl rfl rfl ?_ | refine .done ?_ | refine r_seq (T := TT) ?_ | refine r_region (T := TT) rfl ?_ | refine r_block (T := TT) ?_ | refine r_then (T := TT) rfl ?_ | refine r_else (T := TT) rfl ?_)
    refine r_unroll 2 ?_
    refine r_round ⟨[(1, .d (dNm l)), (2, .d (dVl l)), (3, .box 0 0), (6, .box 1 0), (7, .d (dN .i64 0)), (12, .nil), (72, .d (.leaf (.sl 1 (cell7 o1 na1 xs1 nb1 ys1 nm1 n1 cs1)))), (73, .d (dN .i64 1)), (74, .d (dN .i64 0))], [(0, some ([.val (.int .i64 3)] ++ aQ0 ++ [.val (vL []), .sl 1 (cell7 o1 na1 xs1 nb1 ys1 nm1 n1 cs1)])), (1, some aQt0)]⟩ (weak ⟨rfl, rfl, rfl, rfl, rfl, rfl, rfl, rfl, rfl, trivial⟩ ⟨rfl, rfl, trivial⟩ rfl) ?_
    repeat (first | refine r_op rfl rfl rfl rfl ?_ | refine r_skip rfl rfl rfl ?_ | refine .done ?_ | refine r_seq (T := TT) ?_ | refine r_region (T := TT) rfl ?_ | refine r_block (T := TT) ?_ | refine r_then (T := TT) rfl ?_ | refine r_else (T := TT) rfl ?_)
    refine r_idx (i := 0) (cs' := cell7 o1 na1 xs1 nb1 ys1 nm1 n1 cs1) (by decide) (arg_at1 _) (Nat.zero_lt_succ 6) rfl rfl rfl rfl rfl rfl rfl rfl ?_
    repeat (first | refine r_op rfl rfl rfl rfl ?_ | refine r_skip rfl rfl rfl ?_ | refine .done ?_ | refine r_seq (T := TT) ?_ | refine r_region (T := TT) rfl ?_ | refine r_block (T := TT) ?_ | refine r_then (T := TT) rfl ?_ | refine r_else (T := TT) rfl ?_)
    refine r_call (ih) rfl rfl rfl rfl rfl rfl rfl ?_
    repeat (first | refine r_op rfl rfl rfl rfl ?_ | refine r_skip rfl rfl rfl ?_ | refine .done ?_ | refine r_seq (T := TT) ?_ | refine r_region (T := TT) rfl ?_ | refine r_block (T := TT) ?_ | refine r_then (T := TT) rfl ?_ | refine r_else (T := TT) rfl ?_)
    refine r_appC 5001 (m1 := 0) (m2 := 1) TT_ok (by decide) (by decide) rfl rfl rfl rfl rfl rfl rfl rfl rfl rfl rfl (.nil rfl rfl) rfl rfl rfl ?_
    repeat (first | refine r_op rfl rfl rfl rfl ?_ | refine r_skip rfl rfl rfl ?_ | refine .done ?_ | refine r_seq (T := TT) ?_ | refine r_region (T := TT) rfl ?_ | refine r_block (T := TT) ?_ | refine r_then (T := TT) rfl ?_ | refine r_else (T := TT) rfl ?_)
    refine r_round ⟨[(1, .d (dNm l)), (2, .d (dVl l)), (3, .box 0 0), (6, .box 1 0), (7, .d (dN .i64 0)), (12, .own 5001 1 5 28), (72, .d (.leaf (.sl 1 (cell7 o1 na1 xs1 nb1 ys1 nm1 n1 cs1)))), (73, .d (dN .i64 1)), (74, .d (dN .i64 1))], [(0, some ([.val (.int .i64 3)] ++ aQ0 ++ [.val (vL []), .sl 1 (cell7 o1 na1 xs1 nb1 ys1 nm1 n1 cs1)])), (1, some aQt0), (5001, some (aQt x.1 x.2))]⟩ (weak ⟨rfl, rfl, rfl, rfl, rfl, rfl, rfl, rfl, rfl, trivial⟩ ⟨rfl, rfl, rfl, trivial⟩ rfl) ?_
    repeat (first | refine r_op rfl rfl rfl rfl ?_ | refine r_skip rfl rfl rfl ?_ | refine .done ?_ | refine r_seq (T := TT) ?_ | refine r_region (T := TT) rfl ?_ | refine r_block (T := TT) ?_ | refine r_then (T := TT) rfl ?_ | refine r_else (T := TT) rfl ?_)
    refine r_oidx (i := 0) (by decide) rfl rfl rfl rfl rfl rfl rfl rfl rfl ?_
    repeat (first | refine r_op rfl rfl rfl rfl ?_ | refine r_skip rfl rfl rfl ?_ | refine .done ?_ | refine r_seq (T := TT) ?_ | refine r_region (T := TT) rfl ?_ | refine r_block (T := TT) ?_ | refine r_then (T := TT) rfl ?_ | refine r_else (T := TT) rfl ?_)
    refine r_call (ok_u_negative hx (by omega)) rfl rfl rfl rfl rfl rfl rfl ?_
    repeat (first | refine r_op rfl rfl rfl rfl ?_ | refine r_skip rfl rfl rfl ?_ | refine .done ?_ | refine r_seq (T := TT) ?_ | refine r_region (T := TT) rfl ?_ | refine r_block (T := TT) ?_ | refine r_then (T := TT) rfl ?_ | refine r_else (T := TT) rfl ?_)
    exact r_fin (T := TT) rfl rfl
set_option maxHeartbeats 4000000 in
theorem ok_u_Eval_add {a b : Ex} (henv : EnvOK (envF l)) (ho : okE a) (ho' : okE b) (hw : wtE a + wtE b ≤ 1000000) (ih : CallOK Tryz.prog 22 [dE a, dNm l, dVl l] (toRV (evE (envF l) a))) (ih' : CallOK Tryz.prog 22 [dE b, dNm l, dVl l] (toRV (evE (envF l) b))) : CallOK Tryz.prog 22 [dE (.bin .add a b), dNm l, dVl l] (toRV (evE (envF l) (.bin .add a b))) := by
  obtain ⟨o1, na1, xs1, nb1, ys1, nm1, n1, cs1, hA⟩ := aE_form a
  obtain ⟨o2, na2, xs2, nb2, ys2, nm2, n2, cs2, hB⟩ := aE_form b
  rw [show dE (.bin .add a b) = .agg ([.val (.int .i64 (B4.add).code)] ++ aQ0 ++ [.val (vL []), .sl 2 (aE a ++ aE b)]) from congrArg DV.agg (aE_bin .add a b), hA, hB]
  rw [show dE a = .agg (cell7 o1 na1 xs1 nb1 ys1 nm1 n1 cs1) from congrArg DV.agg hA] at ih
  rw [show dE b = .agg (cell7 o2 na2 xs2 nb2 ys2 nm2 n2 cs2) from congrArg DV.agg hB] at ih'
  cases ha : evE (envF l) a with
  | error z =>
    have hz := ev_err ha
    rw [ha] at ih
    rw [show evE (envF l) (.bin .add a b) = .error z by simp only [evE, ha]]
    refine callOK_of TT_ok mixT Tryz.func22 rfl rfl (Nat.le_of_ble_eq_true rfl) ?_
    repeat (first | refine r_op rfl rfl rfl rfl ?_ | refine r_skip rfl rfl rfl ?_ | refine .done ?_ | refine r_seq (T := TT) ?_ | refine r_region (T := TT) rfl ?_ | refine r_block (T := TT) ?_ | refine r_then (T := TT) rfl ?_ | refine r_else (T := TT) rfl ?_)
    refine r_unroll 3 ?_
    refine r_round ⟨[(1, .d (dNm l)), (2, .d (dVl l)), (3, .box 0 0), (6, .box 1 0), (7, .d (dN .i64 0)), (12, .nil), (72, .d (.leaf (.sl 2 (cell7 o1 na1 xs1 nb1 ys1 nm1 n1 cs1 ++ cell7 o2 na2 xs2 nb2 ys2 nm2 n2 cs2)))), (73, .d (dN .i64 2)), (74, .d (dN .i64 0))], [(0, some ([.val (.int .i64 (B4.add).code)] ++ aQ0 ++ [.val (vL []), .sl 2 (cell7 o1 na1 xs1 nb1 ys1 nm1 n1 cs1 ++ cell7 o2 na2 xs2 nb2 ys2 nm2 n2 cs2)])), (1, some aQt0)]⟩ (weak ⟨rfl, rfl, rfl, rfl, rfl, rfl, rfl, rfl, rfl, trivial⟩ ⟨rfl, rfl, trivial⟩ rfl) ?_
    repeat (first | refine r_op rfl rfl rfl rfl ?_ | refine r_skip rfl rfl rfl ?_ | refine .done ?_ | refine r_seq (T := TT) ?_ | refine r_region (T := TT) rfl ?_ | refine r_block (T := TT) ?_ | refine r_then (T := TT) rfl ?_ | refine r_else (T := TT) rfl ?_)
    refine r_idx (i := 0) (cs' := cell7 o1 na1 xs1 nb1 ys1 nm1 n1 cs1) (by decide) (arg_at2 _ _) (Nat.zero_lt_succ 6) rfl rfl rfl rfl rfl rfl rfl rfl ?_
    repeat (first | refine r_op rfl rfl rfl rfl ?_ | refine r_skip rfl rfl rfl ?_ | refine .done ?_ | refine r_seq (T := TT) ?_ | refine r_region (T := TT) rfl ?_ | refine r_block (T := TT) ?_ | refine r_then (T := TT) rfl ?_ | refine r_else (T := TT) rfl ?_)
    refine r_call (ih) rfl rfl rfl rfl rfl rfl rfl ?_
    repeat (first | refine r_op rfl rfl rfl rfl ?_ | refine r_skip rfl rfl rfl ?_ | refine .done ?_)
    repeat refine r_seq (T := TT) ?_
    refine r_region (T := TT) rfl ?_
    iterate 1 (first | refine r_op rfl rfl rfl rfl ?_ | refine r_skip rfl rfl rfl ?_)
    refine r_eq (v' := .bool true) rfl rfl rfl rfl ?_ ?_
    · exact congrArg Value.bool ((by simpa using hz))
    repeat (first | refine r_op rfl rfl rfl rfl ?_ | refine r_skip rfl rfl rfl ?_ | refine .done ?_ | refine r_seq (T := TT) ?_ | refine r_region (T := TT) rfl ?_ | refine r_block (T := TT) ?_ | refine r_then (T := TT) rfl ?_ | refine r_else (T := TT) rfl ?_)
    exact r_fin (T := TT) rfl rfl
  | ok x =>
    obtain ⟨hx, hpx⟩ := ev_ok henv ho ha
    rw [ha] at ih
    cases hb : evE (envF l) b with
    | error z =>
      have hz := ev_err hb
      rw [hb] at ih'
      rw [show evE (envF l) (.bin .add a b) = .error z by simp only [evE, ha, hb]]
      refine callOK_of TT_ok mixT Tryz.func22 rfl rfl (Nat.le_of_ble_eq_true rfl) ?_
      repeat (first | refine r_op rfl rfl rfl rfl ?_ | refine r_skip rfl rfl rfl ?_ | refine .done ?_ | refine r_seq (T := TT) ?_ | refine r_region (T := TT) rfl ?_ | refine r_block (T := TT) ?_ | refine r_then (T := TT) rfl ?_ | refine r_else (T := TT) rfl ?_)
      refine r_unroll 3 ?_
      refine r_round ⟨[(1, .d (dNm l)), (2, .d (dVl l)), (3, .box 0 0), (6, .box 1 0), (7, .d (dN .i64 0)), (12, .nil), (72, .d (.leaf (.sl 2 (cell7 o1 na1 xs1 nb1 ys1 nm1 n1 cs1 ++ cell7 o2 na2 xs2 nb2 ys2 nm2 n2 cs2)))), (73, .d (dN .i64 2)), (74, .d (dN .i64 0))], [(0, some ([.val (.int .i64 (B4.add).code)] ++ aQ0 ++ [.val (vL []), .sl 2 (cell7 o1 na1 xs1 nb1 ys1 nm1 n1 cs1 ++ cell7 o2 na2 xs2 nb2 ys2 nm2 n2 cs2)])), (1, some aQt0)]⟩ (weak ⟨rfl, rfl, rfl, rfl, rfl, rfl, rfl, rfl, rfl, trivial⟩ ⟨rfl, rfl, trivial⟩ rfl) ?_
      repeat (first | refine r_op rfl rfl rfl rfl ?_ | refine r_skip rfl rfl rfl ?_ | refine .done ?_ | refine r_seq (T := TT) ?_ | refine r_region (T := TT) rfl ?_ | refine r_block (T := TT) ?_ | refine r_then (T := TT) rfl ?_ | refine r_else (T := TT) rfl ?_)
      refine r_idx (i := 0) (cs' := cell7 o1 na1 xs1 nb1 ys1 nm1 n1 cs1) (by decide) (arg_at2 _ _) (Nat.zero_lt_succ 6) rfl rfl rfl rfl rfl rfl rfl rfl ?_
      repeat (first | refine r_op rfl rfl rfl rfl ?_ | refine r_skip rfl rfl rfl ?_ | refine .done ?_ | refine r_seq (T := TT) ?_ | refine r_region (T := TT) rfl ?_ | refine r_block (T := TT) ?_ | refine r_then (T := TT) rfl ?_ | refine r_else (T := TT) rfl ?_)
      refine r_call (ih) rfl rfl rfl rfl rfl rfl rfl ?_
      repeat (first | refine r_op rfl rfl rfl rfl ?_ | refine r_skip rfl rfl rfl ?_ | refine .done ?_ | refine r_seq (T := TT) ?_ | refine r_region (T := TT) rfl ?_ | refine r_block (T := TT) ?_ | refine r_then (T := TT) rfl ?_ | refine r_else (T := TT) rfl ?_)
      refine r_appC 5001 (m1 := 0) (m2 := 1) TT_ok (by decide) (by decide) rfl rfl rfl rfl rfl rfl rfl rfl rfl rfl rfl (.nil rfl rfl) rfl rfl rfl ?_
      repeat (first | refine r_op rfl rfl rfl rfl ?_ | refine r_skip rfl rfl rfl ?_ | refine .done ?_ | refine r_seq (T := TT) ?_ | refine r_region (T := TT) rfl ?_ | refine r_block (T := TT) ?_ | refine r_then (T := TT) rfl ?_ | refine r_else (T := TT) rfl ?_)
      refine r_round ⟨[(1, .d (dNm l)), (2, .d (dVl l)), (3, .box 0 0), (6, .box 1 0), (7, .d (dN .i64 0)), (12, .own 5001 1 5 28), (72, .d (.leaf (.sl 2 (cell7 o1 na1 xs1 nb1 ys1 nm1 n1 cs1 ++ cell7 o2 na2 xs2 nb2 ys2 nm2 n2 cs2)))), (73, .d (dN .i64 2)), (74, .d (dN .i64 1))], [(0, some ([.val (.int .i64 (B4.add).code)] ++ aQ0 ++ [.val (vL []), .sl 2 (cell7 o1 na1 xs1 nb1 ys1 nm1 n1 cs1 ++ cell7 o2 na2 xs2 nb2 ys2 nm2 n2 cs2)])), (1, some aQt0), (5001, some (aQt x.1 x.2))]⟩ (weak ⟨rfl, rfl, rfl, rfl, rfl, rfl, rfl, rfl, rfl, trivial⟩ ⟨rfl, rfl, rfl, trivial⟩ rfl) ?_
      repeat (first | refine r_op rfl rfl rfl rfl ?_ | refine r_skip rfl rfl rfl ?_ | refine .done ?_ | refine r_seq (T := TT) ?_ | refine r_region (T := TT) rfl ?_ | refine r_block (T := TT) ?_ | refine r_then (T := TT) rfl ?_ | refine r_else (T := TT) rfl ?_)
      refine r_idx (i := 1) (cs' := cell7 o2 na2 xs2 nb2 ys2 nm2 n2 cs2) (by decide) (arg_at3 _ rfl) (Nat.zero_lt_succ 6) rfl rfl rfl rfl rfl rfl rfl rfl ?_
      repeat (first | refine r_op rfl rfl rfl rfl ?_ | refine r_skip rfl rfl rfl ?_ | refine .done ?_ | refine r_seq (T := TT) ?_ | refine r_region (T := TT) rfl ?_ | refine r_block (T := TT) ?_ | refine r_then (T := TT) rfl ?_ | refine r_else (T := TT) rfl ?_)
      refine r_call (ih') rfl rfl rfl rfl rfl rfl rfl ?_
      repeat (first | refine r_op rfl rfl rfl rfl ?_ | refine r_skip rfl rfl rfl ?_ | refine .done ?_)
      repeat refine r_seq (T := TT) ?_
      refine r_region (T := TT) rfl ?_
      iterate 1 (first | refine r_op rfl rfl rfl rfl ?_ | refine r_skip rfl rfl rfl ?_)
      refine r_eq (v' := .bool true) rfl rfl rfl rfl ?_ ?_
      · exact congrArg Value.bool ((by simpa using hz))
      repeat (first | refine r_op rfl rfl rfl rfl ?_ | refine r_skip rfl rfl rfl ?_ | refine .done ?_ | refine r_seq (T := TT) ?_ | refine r_region (T := TT) rfl ?_ | refine r_block (T := TT) ?_ | refine r_then (T := TT) rfl ?_ | refine r_else (T := TT) rfl ?_)
      exact r_fin (T := TT) rfl rfl
    | ok y =>
      obtain ⟨hy, hpy⟩ := ev_ok henv ho' hb
      rw [hb] at ih'
      have hR : evE (envF l) (.bin .add a b) = opR .add x.1 x.2 y.1 y.2 := by simp only [evE, ha, hb]
      rw [hR]
      show CallOK Tryz.prog _ _ (toRV (addR x.1 x.2 y.1 y.2))
      have c := ok_u_Add hx hy (by omega) hpx (p' := y.2)
      cases hr : addR x.1 x.2 y.1 y.2 with
      | error z =>
        rw [hr] at c
        refine callOK_of TT_ok mixT Tryz.func22 rfl rfl (Nat.le_of_ble_eq_true rfl) ?_
        repeat (first | refine r_op rfl rfl rfl rfl ?_ | refine r_skip rfl rfl rfl ?_ | refine .done ?_ | refine r_seq (T := TT) ?_ | refine r_region (T := TT) rfl ?_ | refine r_block (T := TT) ?_ | refine r_then (T := TT) rfl ?_ | refine r_else (T := TT) rfl ?_)
        refine r_unroll 3 ?_
        refine r_round ⟨[(1, .d (dNm l)), (2, .d (dVl l)), (3, .box 0 0), (6, .box 1 0), (7, .d (dN .i64 0)), (12, .nil), (72, .d (.leaf (.sl 2 (cell7 o1 na1 xs1 nb1 ys1 nm1 n1 cs1 ++ cell7 o2 na2 xs2 nb2 ys2 nm2 n2 cs2)))), (73, .d (dN .i64 2)), (74, .d (dN .i64 0))], [(0, some ([.val (.int .i64 (B4.add).code)] ++ aQ0 ++ [.val (vL []), .sl 2 (cell7 o1 na1 xs1 nb1 ys1 nm1 n1 cs1 ++ cell7 o2 na2 xs2 nb2 ys2 nm2 n2 cs2)])), (1, some aQt0)]⟩ (weak ⟨rfl, rfl, rfl, rfl, rfl, rfl, rfl, rfl, rfl, trivial⟩ ⟨rfl, rfl, trivial⟩ rfl) ?_
        repeat (first | refine r_op rfl rfl rfl rfl ?_ | refine r_skip rfl rfl rfl ?_ | refine .done ?_ | refine r_seq (T := TT) ?_ | refine r_region (T := TT) rfl ?_ | refine r_block (T := TT) ?_ | refine r_then (T := TT) rfl ?_ | refine r_else (T := TT) rfl ?_)
        refine r_idx (i := 0) (cs' := cell7 o1 na1 xs1 nb1 ys1 nm1 n1 cs1) (by decide) (arg_at2 _ _) (Nat.zero_lt_succ 6) rfl rfl rfl rfl rfl rfl rfl rfl ?_
        repeat (first | refine r_op rfl rfl rfl rfl ?_ | refine r_skip rfl rfl rfl ?_ | refine .done ?_ | refine r_seq (T := TT) ?_ | refine r_region (T := TT) rfl ?_ | refine r_block (T := TT) ?_ | refine r_then (T := TT) rfl ?_ | refine r_else (T := TT) rfl ?_)
        refine r_call (ih) rfl rfl rfl rfl rfl rfl rfl ?_
        repeat (first | refine r_op rfl rfl rfl rfl ?_ | refine r_skip rfl rfl rfl ?_ | refine .done ?_ | refine r_seq (T := TT) ?_ | refine r_region (T := TT) rfl ?_ | refine r_block (T := TT) ?_ | refine r_then (T := TT) rfl ?_ | refine r_else (T := TT) rfl ?_)
        refine r_appC 5001 (m1 := 0) (m2 := 1) TT_ok (by decide) (by decide) rfl rfl rfl rfl rfl rfl rfl rfl rfl rfl rfl (.nil rfl rfl) rfl rfl rfl ?_
        repeat (first | refine r_op rfl rfl rfl rfl ?_ | refine r_skip rfl rfl rfl ?_ | refine .done ?_ | refine r_seq (T := TT) ?_ | refine r_region (T := TT) rfl ?_ | refine r_block (T := TT) ?_ | refine r_then (T := TT) rfl ?_ | refine r_else (T := TT) rfl ?_)
        refine r_round ⟨[(1, .d (dNm l)), (2, .d (dVl l)), (3, .box 0 0), (6, .box 1 0), (7, .d (dN .i64 0)), (12, .own 5001 1 5 28), (72, .d (.leaf (.sl 2 (cell7 o1 na1 xs1 nb1 ys1 nm1 n1 cs1 ++ cell7 o2 na2 xs2 nb2 ys2 nm2 n2 cs2)))), (73, .d (dN .i64 2)), (74, .d (dN .i64 1))], [(0, some ([.val (.int .i64 (B4.add).code)] ++ aQ0 ++ [.val (vL []), .sl 2 (cell7 o1 na1 xs1 nb1 ys1 nm1 n1 cs1 ++ cell7 o2 na2 xs2 nb2 ys2 nm2 n2 cs2)])), (1, some aQt0), (5001, some (aQt x.1 x.2))]⟩ (weak ⟨rfl, rfl, rfl, rfl, rfl, rfl, rfl, rfl, rfl, trivial⟩ ⟨rfl, rfl, rfl, trivial⟩ rfl) ?_
        repeat (first | refine r_op rfl rfl rfl rfl ?_ | refine r_skip rfl rfl rfl ?_ | refine .done ?_ | refine r_seq (T := TT) ?_ | refine r_region (T := TT) rfl ?_ | refine r_block (T := TT) ?_ | refine r_then (T := TT) rfl ?_ | refine r_else (T := TT) rfl ?_)
        refine r_idx (i := 1) (cs' := cell7 o2 na2 xs2 nb2 ys2 nm2 n2 cs2) (by decide) (arg_at3 _ rfl) (Nat.zero_lt_succ 6) rfl rfl rfl rfl rfl rfl rfl rfl ?_
        repeat (first | refine r_op rfl rfl rfl rfl ?_ | refine r_skip rfl rfl rfl ?_ | refine .done ?_ | refine r_seq (T := TT) ?_ | refine r_region (T := TT) rfl ?_ | refine r_block (T := TT) ?_ | refine r_then (T := TT) rfl ?_ | refine r_else (T := TT) rfl ?_)
        refine r_call (ih') rfl rfl rfl rfl rfl rfl rfl ?_
        repeat (first | refine r_op rfl rfl rfl rfl ?_ | refine r_skip rfl rfl rfl ?_ | refine .done ?_ | refine r_seq (T := TT) ?_ | refine r_region (T := TT) rfl ?_ | refine r_block (T := TT) ?_ | refine r_then (T := TT) rfl ?_ | refine r_else (T := TT) rfl ?_)
        refine r_appC 5002 (m1 := 1) (m2 := 1) TT_ok (by decide) (by decide) rfl rfl rfl rfl rfl rfl rfl rfl rfl rfl rfl (.own rfl rfl) rfl rfl rfl ?_
        repeat (first | refine r_op rfl rfl rfl rfl ?_ | refine r_skip rfl rfl rfl ?_ | refine .done ?_ | refine r_seq (T := TT) ?_ | refine r_region (T := TT) rfl ?_ | refine r_block (T := TT) ?_ | refine r_then (T := TT) rfl ?_ | refine r_else (T := TT) rfl ?_)
        refine r_round ⟨[(1, .d (dNm l)), (2, .d (dVl l)), (3, .box 0 0), (6, .box 1 0), (7, .d (dN .i64 0)), (12, .own 5002 2 5 28), (72, .d (.leaf (.sl 2 (cell7 o1 na1 xs1 nb1 ys1 nm1 n1 cs1 ++ cell7 o2 na2 xs2 nb2 ys2 nm2 n2 cs2)))), (73, .d (dN .i64 2)), (74, .d (dN .i64 2))], [(0, some ([.val (.int .i64 (B4.add).code)] ++ aQ0 ++ [.val (vL []), .sl 2 (cell7 o1 na1 xs1 nb1 ys1 nm1 n1 cs1 ++ cell7 o2 na2 xs2 nb2 ys2 nm2 n2 cs2)])), (1, some aQt0), (5002, some (aQt x.1 x.2 ++ aQt y.1 y.2))]⟩ (weak ⟨rfl, rfl, rfl, rfl, rfl, rfl, rfl, rfl, rfl, trivial⟩ ⟨rfl, rfl, rfl, trivial⟩ rfl) ?_
        repeat (first | refine r_op rfl rfl rfl rfl ?_ | refine r_skip rfl rfl rfl ?_ | refine .done ?_ | refine r_seq (T := TT) ?_ | refine r_region (T := TT) rfl ?_ | refine r_block (T := TT) ?_ | refine r_then (T := TT) rfl ?_ | refine r_else (T := TT) rfl ?_)
        refine r_oidx (i := 0) (by decide) rfl rfl rfl rfl rfl rfl rfl rfl rfl ?_
        iterate 2 (first | refine r_op rfl rfl rfl rfl ?_ | refine r_skip rfl rfl rfl ?_)
        refine r_oidx (i := 1) (by decide) rfl rfl rfl rfl rfl rfl rfl rfl rfl ?_
        iterate 1 (first | refine r_op rfl rfl rfl rfl ?_ | refine r_skip rfl rfl rfl ?_)
        refine r_call (c) rfl rfl rfl rfl rfl rfl rfl ?_
        repeat (first | refine r_op rfl rfl rfl rfl ?_ | refine r_skip rfl rfl rfl ?_ | refine .done ?_ | refine r_seq (T := TT) ?_ | refine r_region (T := TT) rfl ?_ | refine r_block (T := TT) ?_ | refine r_then (T := TT) rfl ?_ | refine r_else (T := TT) rfl ?_)
        exact r_fin (T := TT) rfl rfl
      | ok z =>
        rw [hr] at c
        refine callOK_of TT_ok mixT Tryz.func22 rfl rfl (Nat.le_of_ble_eq_true rfl) ?_
        repeat (first | refine r_op rfl rfl rfl rfl ?_ | refine r_skip rfl rfl rfl ?_ | refine .done ?_ | refine r_seq (T := TT) ?_ | refine r_region (T := TT) rfl ?_ | refine r_block (T := TT) ?_ | refine r_then (T := TT) rfl ?_ | refine r_else (T := TT) rfl ?_)
        refine r_unroll 3 ?_
        refine r_round ⟨[(1, .d (dNm l)), (2, .d (dVl l)), (3, .box 0 0), (6, .box 1 0), (7, .d (dN .i64 0)), (12, .nil), (72, .d (.leaf (.sl 2 (cell7 o1 na1 xs1 nb1 ys1 nm1 n1 cs1 ++ cell7 o2 na2 xs2 nb2 ys2 nm2 n2 cs2)))), (73, .d (dN .i64 2)), (74, .d (dN .i64 0))], [(0, some ([.val (.int .i64 (B4.add).code)] ++ aQ0 ++ [.val (vL []), .sl 2 (cell7 o1 na1 xs1 nb1 ys1 nm1 n1 cs1 ++ cell7 o2 na2 xs2 nb2 ys2 nm2 n2 cs2)])), (1, some aQt0)]⟩ (weak ⟨rfl, rfl, rfl, rfl, rfl, rfl, rfl, rfl, rfl, trivial⟩ ⟨rfl, rfl, trivial⟩ rfl) ?_
        repeat (first | refine r_op rfl rfl rfl rfl ?_ | refine r_skip rfl rfl rfl ?_ | refine .done ?_ | refine r_seq (T := TT) ?_ | refine r_region (T := TT) rfl ?_ | refine r_block (T := TT) ?_ | refine r_then (T := TT) rfl ?_ | refine r_else (T := TT) rfl ?_)
        refine r_idx (i := 0) (cs' := cell7 o1 na1 xs1 nb1 ys1 nm1 n1 cs1) (by decide) (arg_at2 _ _) (Nat.zero_lt_succ 6) rfl rfl rfl rfl rfl rfl rfl rfl ?_
        repeat (first | refine r_op rfl rfl rfl rfl ?_ | refine r_skip rfl rfl rfl ?_ | refine .done ?_ | refine r_seq (T := TT) ?_ | refine r_region (T := TT) rfl ?_ | refine r_block (T := TT) ?_ | refine r_then (T := TT) rfl ?_ | refine r_else (T := TT) rfl ?_)
        refine r_call (ih) rfl rfl rfl rfl rfl rfl rfl ?_
        repeat (first | refine r_op rfl rfl rfl rfl ?_ | refine r_skip rfl rfl rfl ?_ | refine .done ?_ | refine r_seq (T := TT) ?_ | refine r_region (T := TT) rfl ?_ | refine r_block (T := TT) ?_ | refine r_then (T := TT) rfl ?_ | refine r_else (T := TT) rfl ?_)
        refine r_appC 5001 (m1 := 0) (m2 := 1) TT_ok (by decide) (by decide) rfl rfl rfl rfl rfl rfl rfl rfl rfl rfl rfl (.nil rfl rfl) rfl rfl rfl ?_
        repeat (first | refine r_op rfl rfl rfl rfl ?_ | refine r_skip rfl rfl rfl ?_ | refine .done ?_ | refine r_seq (T := TT) ?_ | refine r_region (T := TT) rfl ?_ | refine r_block (T := TT) ?_ | refine r_then (T := TT) rfl ?_ | refine r_else (T := TT) rfl ?_)
        refine r_round ⟨[(1, .d (dNm l)), (2, .d (dVl l)), (3, .box 0 0), (6, .box 1 0), (7, .d (dN .i64 0)), (12, .own 5001 1 5 28), (72, .d (.leaf (.sl 2 (cell7 o1 na1 xs1 nb1 ys1 nm1 n1 cs1 ++ cell7 o2 na2 xs2 nb2 ys2 nm2 n2 cs2)))), (73, .d (dN .i64 2)), (74, .d (dN .i64 1))], [(0, some ([.val (.int .i64 (B4.add).code)] ++ aQ0 ++ [.val (vL []), .sl 2 (cell7 o1 na1 xs1 nb1 ys1 nm1 n1 cs1 ++ cell7 o2 na2 xs2 nb2 ys2 nm2 n2 cs2)])), (1, some aQt0), (5001, some (aQt x.1 x.2))]⟩ (weak ⟨rfl, rfl, rfl, rfl, rfl, rfl, rfl, rfl, rfl, trivial⟩ ⟨rfl, rfl, rfl, trivial⟩ rfl) ?_
        repeat (first | refine r_op rfl rfl rfl rfl ?_ | refine r_skip rfl rfl rfl ?_ | refine .done ?_ | refine r_seq (T := TT) ?_ | refine r_region (T := TT) rfl ?_ | refine r_block (T := TT) ?_ | refine r_then (T := TT) rfl ?_ | refine r_else (T := TT) rfl ?_)
        refine r_idx (i := 1) (cs' := cell7 o2 na2 xs2 nb2 ys2 nm2 n2 cs2) (by decide) (arg_at3 _ rfl) (Nat.zero_lt_succ 6) rfl rfl rfl rfl rfl rfl rfl rfl ?_
        repeat (first | refine r_op rfl rfl rfl rfl ?_ | refine r_skip rfl rfl rfl ?_ | refine .done ?_ | refine r_seq (T := TT) ?_ | refine r_region (T := TT) rfl ?_ | refine r_block (T := TT) ?_ | refine r_then (T := TT) rfl ?_ | refine r_else (T := TT) rfl ?_)
        refine r_call (ih') rfl rfl rfl rfl rfl rfl rfl ?_
        repeat (first | refine r_op rfl rfl rfl rfl ?_ | refine r_skip rfl rfl rfl ?_ | refine .done ?_ | refine r_seq (T := TT) ?_ | refine r_region (T := TT) rfl ?_ | refine r_block (T := TT) ?_ | refine r_then (T := TT) rfl ?_ | refine r_else (T := TT) rfl ?_)
        refine r_appC 5002 (m1 := 1) (m2 := 1) TT_ok (by decide) (by decide) rfl rfl rfl rfl rfl rfl rfl rfl rfl rfl rfl (.own rfl rfl) rfl rfl rfl ?_
        repeat (first | refine r_op rfl rfl rfl rfl ?_ | refine r_skip rfl rfl rfl ?_ | refine .done ?_ | refine r_seq (T := TT) ?_ | refine r_region (T := TT) rfl ?_ | refine r_block (T := TT) ?_ | refine r_then (T := TT) rfl ?_ | refine r_else (T := TT) rfl ?_)
        refine r_round ⟨[(1, .d (dNm l)), (2, .d (dVl l)), (3, .box 0 0), (6, .box 1 0), (7, .d (dN .i64 0)), (12, .own 5002 2 5 28), (72, .d (.leaf (.sl 2 (cell7 o1 na1 xs1 nb1 ys1 nm1 n1 cs1 ++ cell7 o2 na2 xs2 nb2 ys2 nm2 n2 cs2)))), (73, .d (dN .i64 2)), (74, .d (dN .i64 2))], [(0, some ([.val (.int .i64 (B4.add).code)] ++ aQ0 ++ [.val (vL []), .sl 2 (cell7 o1 na1 xs1 nb1 ys1 nm1 n1 cs1 ++ cell7 o2 na2 xs2 nb2 ys2 nm2 n2 cs2)])), (1, some aQt0), (5002, some (aQt x.1 x.2 ++ aQt y.1 y.2))]⟩ (weak ⟨rfl, rfl, rfl, rfl, rfl, rfl, rfl, rfl, rfl, trivial⟩ ⟨rfl, rfl, rfl, trivial⟩ rfl) ?_
        repeat (first | refine r_op rfl rfl rfl rfl ?_ | refine r_skip rfl rfl rfl ?_ | refine .done ?_ | refine r_seq (T := TT) ?_ | refine r_region (T := TT) rfl ?_ | refine r_block (T := TT) ?_ | refine r_then (T := TT) rfl ?_ | refine r_else (T := TT) rfl ?_)
        refine r_oidx (i := 0) (by decide) rfl rfl rfl rfl rfl rfl rfl rfl rfl ?_
        iterate 2 (first | refine r_op rfl rfl rfl rfl ?_ | refine r_skip rfl rfl rfl ?_)
        refine r_oidx (i := 1) (by decide) rfl rfl rfl rfl rfl rfl rfl rfl rfl ?_
        iterate 1 (first | refine r_op rfl rfl rfl rfl ?_ | refine r_skip rfl rfl rfl ?_)
        refine r_call (c) rfl rfl rfl rfl rfl rfl rfl ?_
        repeat (first | refine r_op rfl rfl rfl rfl ?_ | refine r_skip rfl rfl rfl ?_ | refine .done ?_ | refine r_seq (T := TT) ?_ | refine r_region (T := TT) rfl ?_ | refine r_block (T := TT) ?_ | refine r_then (T := TT) rfl ?_ | refine r_else (T := TT) rfl ?_)
        exact r_fin (T := TT) rfl rfl
set_option maxHeartbeats 4000000 in
theorem ok_u_Eval_sub {a b : Ex} (henv : EnvOK (envF l)) (ho : okE a) (ho' : okE b) (hw : wtE a + wtE b ≤ 1000000) (ih : CallOK Tryz.prog 22 [dE a, dNm l, dVl l] (toRV (evE (envF l) a))) (ih' : CallOK Tryz.prog 22 [dE b, dNm l, dVl l] (toRV (evE (envF l) b))) : CallOK Tryz.prog 22 [dE (.bin .sub a b), dNm l, dVl l] (toRV (evE (envF l) (.bin .sub a b))) := by
  obtain ⟨o1, na1, xs1, nb1, ys1, nm1, n1, cs1, hA⟩ := aE_form a
  obtain ⟨o2, na2, xs2, nb2, ys2, nm2, n2, cs2, hB⟩ := aE_form b
  rw [show dE (.bin .sub a b) = .agg ([.val (.int .i64 (B4.sub).code)] ++ aQ0 ++ [.val (vL []), .sl 2 (aE a ++ aE b)]) from congrArg DV.agg (aE_bin .sub a b), hA, hB]
  rw [show dE a = .agg (cell7 o1 na1 xs1 nb1 ys1 nm1 n1 cs1) from congrArg DV.agg hA] at ih
  rw [show dE b = .agg (cell7 o2 na2 xs2 nb2 ys2 nm2 n2 cs2) from congrArg DV.agg hB] at ih'
  cases ha : evE (envF l) a with
  | error z =>
    have hz := ev_err ha
    rw [ha] at ih
    rw [show evE (envF l) (.bin .sub a b) = .error z by simp only [evE, ha]]
    refine callOK_of TT_ok mixT Tryz.func22 rfl rfl (Nat.le_of_ble_eq_true rfl) ?_
    repeat (first | refine r_op rfl rfl rfl rfl ?_ | refine r_skip rfl rfl rfl ?_ | refine .done ?_ | refine r_seq (T := TT) ?_ | refine r_region (T := TT) rfl ?_ | refine r_block (T := TT) ?_ | refine r_then (T := TT) rfl ?_ | refine r_else (T := TT) rfl ?_)
    refine r_unroll 3 ?_
    refine r_round ⟨[(1, .d (dNm l)), (2, .d (dVl l)), (3, .box 0 0), (6, .box 1 0), (7, .d (dN .i64 0)), (12, .nil), (72, .d (.leaf (.sl 2 (cell7 o1 na1 xs1 nb1 ys1 nm1 n1 cs1 ++ cell7 o2 na2 xs2 nb2 ys2 nm2 n2 cs2)))), (73, .d (dN .i64 2)), (74, .d (dN .i64 0))], [(0, some ([.val (.int .i64 (B4.sub).code)] ++ aQ0 ++ [.val (vL []), .sl 2 (cell7 o1 na1 xs1 nb1 ys1 nm1 n1 cs1 ++ cell7 o2 na2 xs2 nb2 ys2 nm2 n2 cs2)])), (1, some aQt0)]⟩ (weak ⟨rfl, rfl, rfl, rfl, rfl, rfl, rfl, rfl, rfl, trivial⟩ ⟨rfl, rfl, trivial⟩ rfl) ?_
    repeat (first | refine r_op rfl rfl rfl rfl ?_ | refine r_skip rfl rfl rfl ?_ | refine .done ?_ | refine r_seq (T := TT) ?_ | refine r_region (T := TT) rfl ?_ | refine r_block (T := TT) ?_ | refine r_then (T := TT) rfl ?_ | refine r_else (T := TT) rfl ?_)
    refine r_idx (i := 0) (cs' := cell7 o1 na1 xs1 nb1 ys1 nm1 n1 cs1) (by decide) (arg_at2 _ _) (Nat.zero_lt_succ 6) rfl rfl rfl rfl rfl rfl rfl rfl ?_
    repeat (first | refine r_op rfl rfl rfl rfl ?_ | refine r_skip rfl rfl rfl ?_ | refine .done ?_ | refine r_seq (T := TT) ?_ | refine r_region (T := TT) rfl ?_ | refine r_block (T := TT) ?_ | refine r_then (T := TT) rfl ?_ | refine r_else (T := TT) rfl ?_)
    refine r_call (ih) rfl rfl rfl rfl rfl rfl rfl ?_
    repeat (first | refine r_op rfl rfl rfl rfl ?_ | refine r_skip rfl rfl rfl ?_ | refine .done ?_)
    repeat refine r_seq (T := TT) ?_
    refine r_region (T := TT) rfl ?_
    iterate 1 (first | refine r_op rfl rfl rfl rfl ?_ | refine r_skip rfl rfl rfl ?_)
    refine r_eq (v' := .bool true) rfl rfl rfl rfl ?_ ?_
    · exact congrArg Value.bool ((by simpa using hz))
    repeat (first | refine r_op rfl rfl rfl rfl ?_ | refine r_skip rfl rfl rfl ?_ | refine .done ?_ | refine r_seq (T := TT) ?_ | refine r_region (T := TT) rfl ?_ | refine r_block (T := TT) ?_ | refine r_then (T := TT) rfl ?_ | refine r_else (T := TT) rfl ?_)
    exact r_fin (T := TT) rfl rfl
  | ok x =>
    obtain ⟨hx, hpx⟩ := ev_ok henv ho ha
    rw [ha] at ih
    cases hb : evE (envF l) b with
    | error z =>
      have hz := ev_err hb
      rw [hb] at ih'
      rw [show evE (envF l) (.bin .sub a b) = .error z by simp only [evE, ha, hb]]
      refine callOK_of TT_ok mixT Tryz.func22 rfl rfl (Nat.le_of_ble_eq_true rfl) ?_
      repeat (first | refine r_op rfl rfl rfl rfl ?_ | refine r_skip rfl rfl rfl ?_ | refine .done ?_ | refine r_seq (T := TT) ?_ | refine r_region (T := TT) rfl ?_ | refine r_block (T := TT) ?_ | refine r_then (T := TT) rfl ?_ | refine r_else (T := TT) rfl ?_)
      refine r_unroll 3 ?_
      refine r_round ⟨[(1, .d (dNm l)), (2, .d (dVl l)), (3, .box 0 0), (6, .box 1 0), (7, .d (dN .i64 0)), (12, .nil), (72, .d (.leaf (.sl 2 (cell7 o1 na1 xs1 nb1 ys1 nm1 n1 cs1 ++ cell7 o2 na2 xs2 nb2 ys2 nm2 n2 cs2)))), (73, .d (dN .i64 2)), (74, .d (dN .i64 0))], [(0, some ([.val (.int .i64 (B4.sub).code)] ++ aQ0 ++ [.val (vL []), .sl 2 (cell7 o1 na1 xs1 nb1 ys1 nm1 n1 cs1 ++ cell7 o2 na2 xs2 nb2 ys2 nm2 n2 cs2)])), (1, some aQt0)]⟩ (weak ⟨rfl, rfl, rfl, rfl, rfl, rfl, rfl, rfl, rfl, trivial⟩ ⟨rfl, rfl, trivial⟩ rfl) ?_
      repeat (first | refine r_op rfl rfl rfl rfl ?_ | refine r_skip rfl rfl rfl ?_ | refine .done ?_ | refine r_seq (T := TT) ?_ | refine r_region (T := TT) rfl ?_ | refine r_block (T := TT) ?_ | refine r_then (T := TT) rfl ?_ | refine r_else (T := TT) rfl ?_)
      refine r_idx (i := 0) (cs' := cell7 o1 na1 xs1 nb1 ys1 nm1 n1 cs1) (by decide) (arg_at2 _ _) (Nat.zero_lt_succ 6) rfl rfl rfl rfl rfl rfl rfl rfl ?_
      repeat (first | refine r_op rfl rfl rfl rfl ?_ | refine r_skip rfl rfl rfl ?_ | refine .done ?_ | refine r_seq (T := TT) ?_ | refine r_region (T := TT) rfl ?_ | refine r_block (T := TT) ?_ | refine r_then (T := TT) rfl ?_ | refine r_else (T := TT) rfl ?_)
      refine r_call (ih) rfl rfl rfl rfl rfl rfl rfl ?_
      repeat (first | refine r_op rfl rfl rfl rfl ?_ | refine r_skip rfl rfl rfl ?_ | refine .done ?_ | refine r_seq (T := TT) ?_ | refine r_region (T := TT) rfl ?_ | refine r_block (T := TT) ?_ | refine r_then (T := TT) rfl ?_ | refine r_else (T := TT) rfl ?_)
      refine r_appC 5001 (m1 := 0) (m2 := 1) TT_ok (by decide) (by decide) rfl rfl rfl rfl rfl rfl rfl rfl rfl rfl rfl (.nil rfl rfl) rfl rfl rfl ?_
      repeat (first | refine r_op rfl rfl rfl rfl ?_ | refine r_skip rfl rfl rfl ?_ | refine .done ?_ | refine r_seq (T := TT) ?_ | refine r_region (T := TT) rfl ?_ | refine r_block (T := TT) ?_ | refine r_then (T := TT) rfl ?_ | refine r_else (T := TT) rfl ?_)
      refine r_round ⟨[(1, .d (dNm l)), (2, .d (dVl l)), (3, .box 0 0), (6, .box 1 0), (7, .d (dN .i64 0)), (12, .own 5001 1 5 28), (72, .d (.leaf (.sl 2 (cell7 o1 na1 xs1 nb1 ys1 nm1 n1 cs1 ++ cell7 o2 na2 xs2 nb2 ys2 nm2 n2 cs2)))), (73, .d (dN .i64 2)), (74, .d (dN .i64 1))], [(0, some ([.val (.int .i64 (B4.sub).code)] ++ aQ0 ++ [.val (vL []), .sl 2 (cell7 o1 na1 xs1 nb1 ys1 nm1 n1 cs1 ++ cell7 o2 na2 xs2 nb2 ys2 nm2 n2 cs2)])), (1, some aQt0), (5001, some (aQt x.1 x.2))]⟩ (weak ⟨rfl, rfl, rfl, rfl, rfl, rfl, rfl, rfl, rfl, trivial⟩ ⟨rfl, rfl, rfl, trivial⟩ rfl) ?_
      repeat (first | refine r_op rfl rfl rfl rfl ?_ | refine r_skip rfl rfl rfl ?_ | refine .done ?_ | refine r_seq (T := TT) ?_ | refine r_region (T := TT) rfl ?_ | refine r_block (T := TT) ?_ | refine r_then (T := TT) rfl ?_ | refine r_else (T := TT) rfl ?_)
      refine r_idx (i := 1) (cs' := cell7 o2 na2 xs2 nb2 ys2 nm2 n2 cs2) (by decide) (arg_at3 _ rfl) (Nat.zero_lt_succ 6) rfl rfl rfl rfl rfl rfl rfl rfl ?_
      repeat (first | refine r_op rfl rfl rfl rfl ?_ | refine r_skip rfl rfl rfl ?_ | refine .done ?_ | refine r_seq (T := TT) ?_ | refine r_region (T := TT) rfl ?_ | refine r_block (T := TT) ?_ | refine r_then (T := TT) rfl ?_ | refine r_else (T := TT) rfl ?_)
      refine r_call (ih') rfl rfl rfl rfl rfl rfl rfl ?_
      repeat (first | refine r_op rfl rfl rfl rfl ?_ | refine r_skip rfl rfl rfl ?_ | refine .done ?_)
      repeat refine r_seq (T := TT) ?_
      refine r_region (T := TT) rfl ?_
      iterate 1 (first | refine r_op rfl rfl rfl rfl ?_ | refine r_skip rfl rfl rfl ?_)
      refine r_eq (v' := .bool true) rfl rfl rfl rfl ?_ ?_
      · exact congrArg Value.bool ((by simpa using hz))
      repeat (first | refine r_op rfl rfl rfl rfl ?_ | refine r_skip rfl rfl rfl ?_ | refine .done ?_ | refine r_seq (T := TT) ?_ | refine r_region (T := TT) rfl ?_ | refine r_block (T := TT) ?_ | refine r_then (T := TT) rfl ?_ | refine r_else (T := TT) rfl ?_)
      exact r_fin (T := TT) rfl rfl
    | ok y =>
      obtain ⟨hy, hpy⟩ := ev_ok henv ho' hb
      rw [hb] at ih'
      have hR : evE (envF l) (.bin .sub a b) = opR .sub x.1 x.2 y.1 y.2 := by simp only [evE, ha, hb]
      rw [hR]
      show CallOK Tryz.prog _ _ (toRV (addR x.1 x.2 (-y.1) y.2))
      have c := ok_u_Add hx hy.neg (by omega) hpx (p' := y.2)
      cases hr : addR x.1 x.2 (-y.1) y.2 with
      | error z =>
        rw [hr] at c
        refine callOK_of TT_ok mixT Tryz.func22 rfl rfl (Nat.le_of_ble_eq_true rfl) ?_
        repeat (first | refine r_op rfl rfl rfl rfl ?_ | refine r_skip rfl rfl rfl ?_ | refine .done ?_ | refine r_seq (T := TT) ?_ | refine r_region (T := TT) rfl ?_ | refine r_block (T := TT) ?_ | refine r_then (T := TT) rfl ?_ | refine r_else (T := TT) rfl ?_)
        refine r_unroll 3 ?_
        refine r_round ⟨[(1, .d (dNm l)), (2, .d (dVl l)), (3, .box 0 0), (6, .box 1 0), (7, .d (dN .i64 0)), (12, .nil), (72, .d (.leaf (.sl 2 (cell7 o1 na1 xs1 nb1 ys1 nm1 n1 cs1 ++ cell7 o2 na2 xs2 nb2 ys2 nm2 n2 cs2)))), (73, .d (dN .i64 2)), (74, .d (dN .i64 0))], [(0, some ([.val (.int .i64 (B4.sub).code)] ++ aQ0 ++ [.val (vL []), .sl 2 (cell7 o1 na1 xs1 nb1 ys1 nm1 n1 cs1 ++ cell7 o2 na2 xs2 nb2 ys2 nm2 n2 cs2)])), (1, some aQt0)]⟩ (weak ⟨rfl, rfl, rfl, rfl, rfl, rfl, rfl, rfl, rfl, trivial⟩ ⟨rfl, rfl, trivial⟩ rfl) ?_
        repeat (first | refine r_op rfl rfl rfl rfl ?_ | refine r_skip rfl rfl rfl ?_ | refine .done ?_ | refine r_seq (T := TT) ?_ | refine r_region (T := TT) rfl ?_ | refine r_block (T := TT) ?_ | refine r_then (T := TT) rfl ?_ | refine r_else (T := TT) rfl ?_)
        refine r_idx (i := 0) (cs' := cell7 o1 na1 xs1 nb1 ys1 nm1 n1 cs1) (by decide) (arg_at2 _ _) (Nat.zero_lt_succ 6) rfl rfl rfl rfl rfl rfl rfl rfl ?_
        repeat (first | refine r_op rfl rfl rfl rfl ?_ | refine r_skip rfl rfl rfl ?_ | refine .done ?_ | refine r_seq (T := TT) ?_ | refine r_region (T := TT) rfl ?_ | refine r_block (T := TT) ?_ | refine r_then (T := TT) rfl ?_ | refine r_else (T := TT) rfl ?_)
        refine r_call (ih) rfl rfl rfl rfl rfl rfl rfl ?_
        repeat (first | refine r_op rfl rfl rfl rfl ?_ | refine r_skip rfl rfl rfl ?_ | refine .done ?_ | refine r_seq (T := TT) ?_ | refine r_region (T := TT) rfl ?_ | refine r_block (T := TT) ?_ | refine r_then (T := TT) rfl ?_ | refine r_else (T := TT) rfl ?_)
        refine r_appC 5001 (m1 := 0) (m2 := 1) TT_ok (by decide) (by decide) rfl rfl rfl rfl rfl rfl rfl rfl rfl rfl rfl (.nil rfl rfl) rfl rfl rfl ?_
        repeat (first | refine r_op rfl rfl rfl rfl ?_ | refine r_skip rfl rfl rfl ?_ | refine .done ?_ | refine r_seq (T := TT) ?_ | refine r_region (T := TT) rfl ?_ | refine r_block (T := TT) ?_ | refine r_then (T := TT) rfl ?_ | refine r_else (T := TT) rfl ?_)
        refine r_round ⟨[(1, .d (dNm l)), (2, .d (dVl l)), (3, .box 0 0), (6, .box 1 0), (7, .d (dN .i64 0)), (12, .own 5001 1 5 28), (72, .d (.leaf (.sl 2 (cell7 o1 na1 xs1 nb1 ys1 nm1 n1 cs1 ++ cell7 o2 na2 xs2 nb2 ys2 nm2 n2 cs2)))), (73, .d (dN .i64 2)), (74, .d (dN .i64 1))], [(0, some ([.val (.int .i64 (B4.sub).code)] ++ aQ0 ++ [.val (vL []), .sl 2 (cell7 o1 na1 xs1 nb1 ys1 nm1 n1 cs1 ++ cell7 o2 na2 xs2 nb2 ys2 nm2 n2 cs2)])), (1, some aQt0), (5001, some (aQt x.1 x.2))]⟩ (weak ⟨rfl, rfl, rfl, rfl, rfl, rfl, rfl, rfl, rfl, trivial⟩ ⟨rfl, rfl, rfl, trivial⟩ rfl) ?_
        repeat (first | refine r_op rfl rfl rfl rfl ?_ | refine r_skip rfl rfl rfl ?_ | refine .done ?_ | refine r_seq (T := TT) ?_ | refine r_region (T := TT) rfl ?_ | refine r_block (T := TT) ?_ | refine r_then (T := TT) rfl ?_ | refine r_else (T := TT) rfl ?_)
        refine r_idx (i := 1) (cs' := cell7 o2 na2 xs2 nb2 ys2 nm2 n2 cs2) (by decide) (arg_at3 _ rfl) (Nat.zero_lt_succ 6) rfl rfl rfl rfl rfl rfl rfl rfl ?_
        repeat (first | refine r_op rfl rfl rfl rfl ?_ | refine r_skip rfl rfl rfl ?_ | refine .done ?_ | refine r_seq (T := TT) ?_ | refine r_region (T := TT) rfl ?_ | refine r_block (T := TT) ?_ | refine r_then (T := TT) rfl ?_ | refine r_else (T := TT) rfl ?_)
        refine r_call (ih') rfl rfl rfl rfl rfl rfl rfl ?_
        repeat (first | refine r_op rfl rfl rfl rfl ?_ | refine r_skip rfl rfl rfl ?_ | refine .done ?_ | refine r_seq (T := TT) ?_ | refine r_region (T := TT) rfl ?_ | refine r_block (T := TT) ?_ | refine r_then (T := TT) rfl ?_ | refine r_else (T := TT) rfl ?_)
        refine r_appC 5002 (m1 := 1) (m2 := 1) TT_ok (by decide) (by decide) rfl rfl rfl rfl rfl rfl rfl rfl rfl rfl rfl (.own rfl rfl) rfl rfl rfl ?_
        repeat (first | refine r_op rfl rfl rfl rfl ?_ | refine r_skip rfl rfl rfl ?_ | refine .done ?_ | refine r_seq (T := TT) ?_ | refine r_region (T := TT) rfl ?_ | refine r_block (T := TT) ?_ | refine r_then (T := TT) rfl ?_ | refine r_else (T := TT) rfl ?_)
        refine r_round ⟨[(1, .d (dNm l)), (2, .d (dVl l)), (3, .box 0 0), (6, .box 1 0), (7, .d (dN .i64 0)), (12, .own 5002 2 5 28), (72, .d (.leaf (.sl 2 (cell7 o1 na1 xs1 nb1 ys1 nm1 n1 cs1 ++ cell7 o2 na2 xs2 nb2 ys2 nm2 n2 cs2)))), (73, .d (dN .i64 2)), (74, .d (dN .i64 2))], [(0, some ([.val (.int .i64 (B4.sub).code)] ++ aQ0 ++ [.val (vL []), .sl 2 (cell7 o1 na1 xs1 nb1 ys1 nm1 n1 cs1 ++ cell7 o2 na2 xs2 nb2 ys2 nm2 n2 cs2)])), (1, some aQt0), (5002, some (aQt x.1 x.2 ++ aQt y.1 y.2))]⟩ (weak ⟨rfl, rfl, rfl, rfl, rfl, rfl, rfl, rfl, rfl, trivial⟩ ⟨rfl, rfl, rfl, trivial⟩ rfl) ?_
        repeat (first | refine r_op rfl rfl rfl rfl ?_ | refine r_skip rfl rfl rfl ?_ | refine .done ?_ | refine r_seq (T := TT) ?_ | refine r_region (T := TT) rfl ?_ | refine r_block (T := TT) ?_ | refine r_then (T := TT) rfl ?_ | refine r_else (T := TT) rfl ?_)
        refine r_oidx (i := 0) (by decide) rfl rfl rfl rfl rfl rfl rfl rfl rfl ?_
        iterate 2 (first | refine r_op rfl rfl rfl rfl ?_ | refine r_skip rfl rfl rfl ?_)
        refine r_oidx (i := 1) (by decide) rfl rfl rfl rfl rfl rfl rfl rfl rfl ?_
        iterate 1 (first | refine r_op rfl rfl rfl rfl ?_ | refine r_skip rfl rfl rfl ?_)
        refine r_call (ok_u_negative hy (by omega)) rfl rfl rfl rfl rfl rfl rfl ?_
        refine r_call (c) rfl rfl rfl rfl rfl rfl rfl ?_
        repeat (first | refine r_op rfl rfl rfl rfl ?_ | refine r_skip rfl rfl rfl ?_ | refine .done ?_ | refine r_seq (T := TT) ?_ | refine r_region (T := TT) rfl ?_ | refine r_block (T := TT) ?_ | refine r_then (T := TT) rfl ?_ | refine r_else (T := TT) rfl ?_)
        exact r_fin (T := TT) rfl rfl
      | ok z =>
        rw [hr] at c
        refine callOK_of TT_ok mixT Tryz.func22 rfl rfl (Nat.le_of_ble_eq_true rfl) ?_
        repeat (first | refine r_op rfl rfl rfl rfl ?_ | refine r_skip rfl rfl rfl ?_ | refine .done ?_ | refine r_seq (T := TT) ?_ | refine r_region (T := TT) rfl ?_ | refine r_block (T := TT) ?_ | refine r_then (T := TT) rfl ?_ | refine r_else (T := TT) rfl ?_)
        refine r_unroll 3 ?_
        refine r_round ⟨[(1, .d (dNm l)), (2, .d (dVl l)), (3, .box 0 0), (6, .box 1 0), (7, .d (dN .i64 0)), (12, .nil), (72, .d (.leaf (.sl 2 (cell7 o1 na1 xs1 nb1 ys1 nm1 n1 cs1 ++ cell7 o2 na2 xs2 nb2 ys2 nm2 n2 cs2)))), (73, .d (dN .i64 2)), (74, .d (dN .i64 0))], [(0, some ([.val (.int .i64 (B4.sub).code)] ++ aQ0 ++ [.val (vL []), .sl 2 (cell7 o1 na1 xs1 nb1 ys1 nm1 n1 cs1 ++ cell7 o2 na2 xs2 nb2 ys2 nm2 n2 cs2)])), (1, some aQt0)]⟩ (weak ⟨rfl, rfl, rfl, rfl, rfl, rfl, rfl, rfl, rfl, trivial⟩ ⟨rfl, rfl, trivial⟩ rfl) ?_
        repeat (first | refine r_op rfl rfl rfl rfl ?_ | refine r_skip rfl rfl rfl ?_ | refine .done ?_ | refine r_seq (T := TT) ?_ | refine r_region (T := TT) rfl ?_ | refine r_block (T := TT) ?_ | refine r_then (T := TT) rfl ?_ | refine r_else (T := TT) rfl ?_)
        refine r_idx (i := 0) (cs' := cell7 o1 na1 xs1 nb1 ys1 nm1 n1 cs1) (by decide) (arg_at2 _ _) (Nat.zero_lt_succ 6) rfl rfl rfl rfl rfl rfl rfl rfl ?_
        repeat (first | refine r_op rfl rfl rfl rfl ?_ | refine r_skip rfl rfl rfl ?_ | refine .done ?_ | refine r_seq (T := TT) ?_ | refine r_region (T := TT) rfl ?_ | refine r_block (T := TT) ?_ | refine r_then (T := TT) rfl ?_ | refine r_else (T := TT) rfl ?_)
        refine r_call (ih) rfl rfl rfl rfl rfl rfl rfl ?_
        repeat (first | refine r_op rfl rfl rfl rfl ?_ | refine r_skip rfl rfl rfl ?_ | refine .done ?_ | refine r_seq (T := TT) ?_ | refine r_region (T := TT) rfl ?_ | refine r_block (T := TT) ?_ | refine r_then (T := TT) rfl ?_ | refine r_else (T := TT) rfl ?_)
        refine r_appC 5001 (m1 := 0) (m2 := 1) TT_ok (by decide) (by decide) rfl rfl rfl rfl rfl rfl rfl rfl rfl rfl rfl (.nil rfl rfl) rfl rfl rfl ?_
        repeat (first | refine r_op rfl rfl rfl rfl ?_ | refine r_skip rfl rfl rfl ?_ | refine .done ?_ | refine r_seq (T := TT) ?_ | refine r_region (T := TT) rfl ?_ | refine r_block (T := TT) ?_ | refine r_then (T := TT) rfl ?_ | refine r_else (T := TT) rfl ?_)
        refine r_round ⟨[(1, .d (dNm l)), (2, .d (dVl l)), (3, .box 0 0), (6, .box 1 0), (7, .d (dN .i64 0)), (12, .own 5001 1 5 28), (72, .d (.leaf (.sl 2 (cell7 o1 na1 xs1 nb1 ys1 nm1 n1 cs1 ++ cell7 o2 na2 xs2 nb2 ys2 nm2 n2 cs2)))), (73, .d (dN .i64 2)), (74, .d (dN .i64 1))], [(0, some ([.val (.int .i64 (B4.sub).code)] ++ aQ0 ++ [.val (vL []), .sl 2 (cell7 o1 na1 xs1 nb1 ys1 nm1 n1 cs1 ++ cell7 o2 na2 xs2 nb2 ys2 nm2 n2 cs2)])), (1, some aQt0), (5001, some (aQt x.1 x.2))]⟩ (weak ⟨rfl, rfl, rfl, rfl, rfl, rfl, rfl, rfl, rfl, trivial⟩ ⟨rfl, rfl, rfl, trivial⟩ rfl) ?_
        repeat (first | refine r_op rfl rfl rfl rfl ?_ | refine r_skip rfl rfl rfl ?_ | refine .done ?_ | refine r_seq (T := TT) ?_ | refine r_region (T := TT) rfl ?_ | refine r_block (T := TT) ?_ | refine r_then (T := TT) rfl ?_ | refine r_else (T := TT) rfl ?_)
        refine r_idx (i := 1) (cs' := cell7 o2 na2 xs2 nb2 ys2 nm2 n2 cs2) (by decide) (arg_at3 _ rfl) (Nat.zero_lt_succ 6) rfl rfl rfl rfl rfl rfl rfl rfl ?_
        repeat (first | refine r_op rfl rfl rfl rfl ?_ | refine r_skip rfl rfl rfl ?_ | refine .done ?_ | refine r_seq (T := TT) ?_ | refine r_region (T := TT) rfl ?_ | refine r_block (T := TT) ?_ | refine r_then (T := TT) rfl ?_ | refine r_else (T := TT) rfl ?_)
        refine r_call (ih') rfl rfl rfl rfl rfl rfl rfl ?_
        repeat (first | refine r_op rfl rfl rfl rfl ?_ | refine r_skip rfl rfl rfl ?_ | refine .done ?_ | refine r_seq (T := TT) ?_ | refine r_region (T := TT) rfl ?_ | refine r_block (T := TT) ?_ | refine r_then (T := TT) rfl ?_ | refine r_else (T := TT) rfl ?_)
        refine r_appC 5002 (m1 := 1) (m2 := 1) TT_ok (by decide) (by decide) rfl rfl rfl rfl rfl rfl rfl rfl rfl rfl rfl (.own rfl rfl) rfl rfl rfl ?_
        repeat (first | refine r_op rfl rfl rfl rfl ?_ | refine r_skip rfl rfl rfl ?_ | refine .done ?_ | refine r_seq (T := TT) ?_ | refine r_region (T := TT) rfl ?_ | refine r_block (T := TT) ?_ | refine r_then (T := TT) rfl ?_ | refine r_else (T := TT) rfl ?_)
        refine r_round ⟨[(1, .d (dNm l)), (2, .d (dVl l)), (3, .box 0 0), (6, .box 1 0), (7, .d (dN .i64 0)), (12, .own 5002 2 5 28), (72, .d (.leaf (.sl 2 (cell7 o1 na1 xs1 nb1 ys1 nm1 n1 cs1 ++ cell7 o2 na2 xs2 nb2 ys2 nm2 n2 cs2)))), (73, .d (dN .i64 2)), (74, .d (dN .i64 2))], [(0, some ([.val (.int .i64 (B4.sub).code)] ++ aQ0 ++ [.val (vL []), .sl 2 (cell7 o1 na1 xs1 nb1 ys1 nm1 n1 cs1 ++ cell7 o2 na2 xs2 nb2 ys2 nm2 n2 cs2)])), (1, some aQt0), (5002, some (aQt x.1 x.2 ++ aQt y.1 y.2))]⟩ (weak ⟨rfl, rfl, rfl, rfl, rfl, rfl, rfl, rfl, rfl, trivial⟩ ⟨rfl, rfl, rfl, trivial⟩ rfl) ?_
        repeat (first | refine r_op rfl rfl rfl rfl ?_ | refine r_skip rfl rfl rfl ?_ | refine .done ?_ | refine r_seq (T := TT) ?_ | refine r_region (T := TT) rfl ?_ | refine r_block (T := TT) ?_ | refine r_then (T := TT) rfl ?_ | refine r_else (T := TT) rfl ?_)
        refine r_oidx (i := 0) (by decide) rfl rfl rfl rfl rfl rfl rfl rfl rfl ?_
        iterate 2 (first | refine r_op rfl rfl rfl rfl ?_ | refine r_skip rfl rfl rfl ?_)
        refine r_oidx (i := 1) (by decide) rfl rfl rfl rfl rfl rfl rfl rfl rfl ?_
        iterate 1 (first | refine r_op rfl rfl rfl rfl ?_ | refine r_skip rfl rfl rfl ?_)
        refine r_call (ok_u_negative hy (by omega)) rfl rfl rfl rfl rfl rfl rfl ?_
        refine r_call (c) rfl rfl rfl rfl rfl rfl rfl ?_
        repeat (first | refine r_op rfl rfl rfl rfl ?_ | refine r_skip rfl rfl rfl ?_ | refine .done ?_ | refine r_seq (T := TT) ?_ | refine r_region (T := TT) rfl ?_ | refine r_block (T := TT) ?_ | refine r_then (T := TT) rfl ?_ | refine r_else (T := TT) rfl ?_)
        exact r_fin (T := TT) rfl rfl
set_option maxHeartbeats 4000000 in
theorem ok_u_Eval_mul {a b : Ex} (henv : EnvOK (envF l)) (ho : okE a) (ho' : okE b) (hw : wtE a + wtE b ≤ 1000000) (ih : CallOK Tryz.prog 22 [dE a, dNm l, dVl l] (toRV (evE (envF l) a))) (ih' : CallOK Tryz.prog 22 [dE b, dNm l, dVl l] (toRV (evE (envF l) b))) : CallOK Tryz.prog 22 [dE (.bin .mul a b), dNm l, dVl l] (toRV (evE (envF l) (.bin .mul a b))) := by
  obtain ⟨o1, na1, xs1, nb1, ys1, nm1, n1, cs1, hA⟩ := aE_form a
  obtain ⟨o2, na2, xs2, nb2, ys2, nm2, n2, cs2, hB⟩ := aE_form b
  rw [show dE (.bin .mul a b) = .agg ([.val (.int .i64 (B4.mul).code)] ++ aQ0 ++ [.val (vL []), .sl 2 (aE a ++ aE b)]) from congrArg DV.agg (aE_bin .mul a b), hA, hB]
  rw [show dE a = .agg (cell7 o1 na1 xs1 nb1 ys1 nm1 n1 cs1) from congrArg DV.agg hA] at ih
  rw [show dE b = .agg (cell7 o2 na2 xs2 nb2 ys2 nm2 n2 cs2) from congrArg DV.agg hB] at ih'
  cases ha : evE (envF l) a with
  | error z =>
    have hz := ev_err ha
    rw [ha] at ih
    rw [show evE (envF l) (.bin .mul a b) = .error z by simp only [evE, ha]]
    refine callOK_of TT_ok mixT Tryz.func22 rfl rfl (Nat.le_of_ble_eq_true rfl) ?_
    repeat (first | refine r_op rfl rfl rfl rfl ?_ | refine r_skip rfl rfl rfl ?_ | refine .done ?_ | refine r_seq (T := TT) ?_ | refine r_region (T := TT) rfl ?_ | refine r_block (T := TT) ?_ | refine r_then (T := TT) rfl ?_ | refine r_else (T := TT) rfl ?_)
    refine r_unroll 3 ?_
    refine r_round ⟨[(1, .d (dNm l)), (2, .d (dVl l)), (3, .box 0 0), (6, .box 1 0), (7, .d (dN .i64 0)), (12, .nil), (72, .d (.leaf (.sl 2 (cell7 o1 na1 xs1 nb1 ys1 nm1 n1 cs1 ++ cell7 o2 na2 xs2 nb2 ys2 nm2 n2 cs2)))), (73, .d (dN .i64 2)), (74, .d (dN .i64 0))], [(0, some ([.val (.int .i64 (B4.mul).code)] ++ aQ0 ++ [.val (vL []), .sl 2 (cell7 o1 na1 xs1 nb1 ys1 nm1 n1 cs1 ++ cell7 o2 na2 xs2 nb2 ys2 nm2 n2 cs2)])), (1, some aQt0)]⟩ (weak ⟨rfl, rfl, rfl, rfl, rfl, rfl, rfl, rfl, rfl, trivial⟩ ⟨rfl, rfl, trivial⟩ rfl) ?_
    repeat (first | refine r_op rfl rfl rfl rfl ?_ | refine r_skip rfl rfl rfl ?_ | refine .done ?_ | refine r_seq (T := TT) ?_ | refine r_region (T := TT) rfl ?_ | refine r_block (T := TT) ?_ | refine r_then (T := TT) rfl ?_ | refine r_else (T := TT) rfl ?_)
    refine r_idx (i := 0) (cs' := cell7 o1 na1 xs1 nb1 ys1 nm1 n1 cs1) (by decide) (arg_at2 _ _) (Nat.zero_lt_succ 6) rfl rfl rfl rfl rfl rfl rfl rfl ?_
    repeat (first | refine r_op rfl rfl rfl rfl ?_ | refine r_skip rfl rfl rfl ?_ | refine .done ?_ | refine r_seq (T := TT) ?_ | refine r_region (T := TT) rfl ?_ | refine r_block (T := TT) ?_ | refine r_then (T := TT) rfl ?_ | refine r_else (T := TT) rfl ?_)
    refine r_call (ih) rfl rfl rfl rfl rfl rfl rfl ?_
    repeat (first | refine r_op rfl rfl rfl rfl ?_ | refine r_skip rfl rfl rfl ?_ | refine .done ?_)
    repeat refine r_seq (T := TT) ?_
    refine r_region (T := TT) rfl ?_
    iterate 1 (first | refine r_op rfl rfl rfl rfl ?_ | refine r_skip rfl rfl rfl ?_)
    refine r_eq (v' := .bool true) rfl rfl rfl rfl ?_ ?_
    · exact congrArg Value.bool ((by simpa using hz))
    repeat (first | refine r_op rfl rfl rfl rfl ?_ | refine r_skip rfl rfl rfl ?_ | refine .done ?_ | refine r_seq (T := TT) ?_ | refine r_region (T := TT) rfl ?_ | refine r_block (T := TT) ?_ | refine r_then (T := TT) rfl ?_ | refine r_else (T := TT) rfl ?_)
    exact r_fin (T := TT) rfl rfl
  | ok x =>
    obtain ⟨hx, hpx⟩ := ev_ok henv ho ha
    rw [ha] at ih
    cases hb : evE (envF l) b with
    | error z =>
      have hz := ev_err hb
      rw [hb] at ih'
      rw [show evE (envF l) (.bin .mul a b) = .error z by simp only [evE, ha, hb]]
      refine callOK_of TT_ok mixT Tryz.func22 rfl rfl (Nat.le_of_ble_eq_true rfl) ?_
      repeat (first | refine r_op rfl rfl rfl rfl ?_ | refine r_skip rfl rfl rfl ?_ | refine .done ?_ | refine r_seq (T := TT) ?_ | refine r_region (T := TT) rfl ?_ | refine r_block (T := TT) ?_ | refine r_then (T := TT) rfl ?_ | refine r_else (T := TT) rfl ?_)
      refine r_unroll 3 ?_
      refine r_round ⟨[(1, .d (dNm l)), (2, .d (dVl l)), (3, .box 0 0), (6, .box 1 0), (7, .d (dN .i64 0)), (12, .nil), (72, .d (.leaf (.sl 2 (cell7 o1 na1 xs1 nb1 ys1 nm1 n1 cs1 ++ cell7 o2 na2 xs2 nb2 ys2 nm2 n2 cs2)))), (73, .d (dN .i64 2)), (74, .d (dN .i64 0))], [(0, some ([.val (.int .i64 (B4.mul).code)] ++ aQ0 ++ [.val (vL []), .sl 2 (cell7 o1 na1 xs1 nb1 ys1 nm1 n1 cs1 ++ cell7 o2 na2 xs2 nb2 ys2 nm2 n2 cs2)])), (1, some aQt0)]⟩ (weak ⟨rfl, rfl, rfl, rfl, rfl, rfl, rfl, rfl, rfl, trivial⟩ ⟨rfl, rfl, trivial⟩ rfl) ?_
      repeat (first | refine r_op rfl rfl rfl rfl ?_ | refine r_skip rfl rfl rfl ?_ | refine .done ?_ | refine r_seq (T := TT) ?_ | refine r_region (T := TT) rfl ?_ | refine r_block (T := TT) ?_ | refine r_then (T := TT) rfl ?_ | refine r_else (T := TT) rfl ?_)
      refine r_idx (i := 0) (cs' := cell7 o1 na1 xs1 nb1 ys1 nm1 n1 cs1) (by decide) (arg_at2 _ _) (Nat.zero_lt_succ 6) rfl rfl rfl rfl rfl rfl rfl rfl ?_
      repeat (first | refine r_op rfl rfl rfl rfl ?_ | refine r_skip rfl rfl rfl ?_ | refine .done ?_ | refine r_seq (T := TT) ?_ | refine r_region (T := TT) rfl ?_ | refine r_block (T := TT) ?_ | refine r_then (T := TT) rfl ?_ | refine r_else (T := TT) rfl ?_)
      refine r_call (ih) rfl rfl rfl rfl rfl rfl rfl ?_
      repeat (first | refine r_op rfl rfl rfl rfl ?_ | refine r_skip rfl rfl rfl ?_ | refine .done ?_ | refine r_seq (T := TT) ?_ | refine r_region (T := TT) rfl ?_ | refine r_block (T := TT) ?_ | refine r_then (T := TT) rfl ?_ | refine r_else (T := TT) rfl ?_)
      refine r_appC 5001 (m1 := 0) (m2 := 1) TT_ok (by decide) (by decide) rfl rfl rfl rfl rfl rfl rfl rfl rfl rfl rfl (.nil rfl rfl) rfl rfl rfl ?_
      repeat (first | refine r_op rfl rfl rfl rfl ?_ | refine r_skip rfl rfl rfl ?_ | refine .done ?_ | refine r_seq (T := TT) ?_ | refine r_region (T := TT) rfl ?_ | refine r_block (T := TT) ?_ | refine r_then (T := TT) rfl ?_ | refine r_else (T := TT) rfl ?_)
      refine r_round ⟨[(1, .d (dNm l)), (2, .d (dVl l)), (3, .box 0 0), (6, .box 1 0), (7, .d (dN .i64 0)), (12, .own 5001 1 5 28), (72, .d (.leaf (.sl 2 (cell7 o1 na1 xs1 nb1 ys1 nm1 n1 cs1 ++ cell7 o2 na2 xs2 nb2 ys2 nm2 n2 cs2)))), (73, .d (dN .i64 2)), (74, .d (dN .i64 1))], [(0, some ([.val (.int .i64 (B4.mul).code)] ++ aQ0 ++ [.val (vL []), .sl 2 (cell7 o1 na1 xs1 nb1 ys1 nm1 n1 cs1 ++ cell7 o2 na2 xs2 nb2 ys2 nm2 n2 cs2)])), (1, some aQt0), (5001, some (aQt x.1 x.2))]⟩ (weak ⟨rfl, rfl, rfl, rfl, rfl, rfl, rfl, rfl, rfl, trivial⟩ ⟨rfl, rfl, rfl, trivial⟩ rfl) ?_
      repeat (first | refine r_op rfl rfl rfl rfl ?_ | refine r_skip rfl rfl rfl ?_ | refine .done ?_ | refine r_seq (T := TT) ?_ | refine r_region (T := TT) rfl ?_ | refine r_block (T := TT) ?_ | refine r_then (T := TT) rfl ?_ | refine r_else (T := TT) rfl ?_)
      refine r_idx (i := 1) (cs' := cell7 o2 na2 xs2 nb2 ys2 nm2 n2 cs2) (by decide) (arg_at3 _ rfl) (Nat.zero_lt_succ 6) rfl rfl rfl rfl rfl rfl rfl rfl ?_
      repeat (first | refine r_op rfl rfl rfl rfl ?_ | refine r_skip rfl rfl rfl ?_ | refine .done ?_ | refine r_seq (T := TT) ?_ | refine r_region (T := TT) rfl ?_ | refine r_block (T := TT) ?_ | refine r_then (T := TT) rfl ?_ | refine r_else (T := TT) rfl ?_)
      refine r_call (ih') rfl rfl rfl rfl rfl rfl rfl ?_
      repeat (first | refine r_op rfl rfl rfl rfl ?_ | refine r_skip rfl rfl rfl ?_ | refine .done ?_)
      repeat refine r_seq (T := TT) ?_
      refine r_region (T := TT) rfl ?_
      iterate 1 (first | refine r_op rfl rfl rfl rfl ?_ | refine r_skip rfl rfl rfl ?_)
      refine r_eq (v' := .bool true) rfl rfl rfl rfl ?_ ?_
      · exact congrArg Value.bool ((by simpa using hz))
      repeat (first | refine r_op rfl rfl rfl rfl ?_ | refine r_skip rfl rfl rfl ?_ | refine .done ?_ | refine r_seq (T := TT) ?_ | refine r_region (T := TT) rfl ?_ | refine r_block (T := TT) ?_ | refine r_then (T := TT) rfl ?_ | refine r_else (T := TT) rfl ?_)
      exact r_fin (T := TT) rfl rfl
    | ok y =>
      obtain ⟨hy, hpy⟩ := ev_ok henv ho' hb
      rw [hb] at ih'
      have hR : evE (envF l) (.bin .mul a b) = opR .mul x.1 x.2 y.1 y.2 := by simp only [evE, ha, hb]
      rw [hR]
      show CallOK Tryz.prog _ _ (toRV (mulR x.1 x.2 y.1 y.2))
      have c := ok_u_Mul hx hy (by omega) hpx hpy
      cases hr : mulR x.1 x.2 y.1 y.2 with
      | error z =>
        rw [hr] at c
        refine callOK_of TT_ok mixT Tryz.func22 rfl rfl (Nat.le_of_ble_eq_true rfl) ?_
        repeat (first | refine r_op rfl rfl rfl rfl ?_ | refine r_skip rfl rfl rfl ?_ | refine .done ?_ | refine r_seq (T := TT) ?_ | refine r_region (T := TT) rfl ?_ | refine r_block (T := TT) ?_ | refine r_then (T := TT) rfl ?_ | refine r_else (T := TT) rfl ?_)
        refine r_unroll 3 ?_
        refine r_round ⟨[(1, .d (dNm l)), (2, .d (dVl l)), (3, .box 0 0), (6, .box 1 0), (7, .d (dN .i64 0)), (12, .nil), (72, .d (.leaf (.sl 2 (cell7 o1 na1 xs1 nb1 ys1 nm1 n1 cs1 ++ cell7 o2 na2 xs2 nb2 ys2 nm2 n2 cs2)))), (73, .d (dN .i64 2)), (74, .d (dN .i64 0))], [(0, some ([.val (.int .i64 (B4.mul).code)] ++ aQ0 ++ [.val (vL []), .sl 2 (cell7 o1 na1 xs1 nb1 ys1 nm1 n1 cs1 ++ cell7 o2 na2 xs2 nb2 ys2 nm2 n2 cs2)])), (1, some aQt0)]⟩ (weak ⟨rfl, rfl, rfl, rfl, rfl, rfl, rfl, rfl, rfl, trivial⟩ ⟨rfl, rfl, trivial⟩ rfl) ?_
        repeat (first | refine r_op rfl rfl rfl rfl ?_ | refine r_skip rfl rfl rfl ?_ | refine .done ?_ | refine r_seq (T := TT) ?_ | refine r_region (T := TT) rfl ?_ | refine r_block (T := TT) ?_ | refine r_then (T := TT) rfl ?_ | refine r_else (T := TT) rfl ?_)
        refine r_idx (i := 0) (cs' := cell7 o1 na1 xs1 nb1 ys1 nm1 n1 cs1) (by decide) (arg_at2 _ _) (Nat.zero_lt_succ 6) rfl rfl rfl rfl rfl rfl rfl rfl ?_
        repeat (first | refine r_op rfl rfl rfl rfl ?_ | refine r_skip rfl rfl rfl ?_ | refine .done ?_ | refine r_seq (T := TT) ?_ | refine r_region (T := TT) rfl ?_ | refine r_block (T := TT) ?_ | refine r_then (T := TT) rfl ?_ | refine r_else (T := TT) rfl ?_)
        refine r_call (ih) rfl rfl rfl rfl rfl rfl rfl ?_
        repeat (first | refine r_op rfl rfl rfl rfl ?_ | refine r_skip rfl rfl rfl ?_ | refine .done ?_ | refine r_seq (T := TT) ?_ | refine r_region (T := TT) rfl ?_ | refine r_block (T := TT) ?_ | refine r_then (T := TT) rfl ?_ | refine r_else (T := TT) rfl ?_)
        refine r_appC 5001 (m1 := 0) (m2 := 1) TT_ok (by decide) (by decide) rfl rfl rfl rfl rfl rfl rfl rfl rfl rfl rfl (.nil rfl rfl) rfl rfl rfl ?_
        repeat (first | refine r_op rfl rfl rfl rfl ?_ | refine r_skip rfl rfl rfl ?_ | refine .done ?_ | refine r_seq (T := TT) ?_ | refine r_region (T := TT) rfl ?_ | refine r_block (T := TT) ?_ | refine r_then (T := TT) rfl ?_ | refine r_else (T := TT) rfl ?_)
        refine r_round ⟨[(1, .d (dNm l)), (2, .d (dVl l)), (3, .box 0 0), (6, .box 1 0), (7, .d (dN .i64 0)), (12, .own 5001 1 5 28), (72, .d (.leaf (.sl 2 (cell7 o1 na1 xs1 nb1 ys1 nm1 n1 cs1 ++ cell7 o2 na2 xs2 nb2 ys2 nm2 n2 cs2)))), (73, .d (dN .i64 2)), (74, .d (dN .i64 1))], [(0, some ([.val (.int .i64 (B4.mul).code)] ++ aQ0 ++ [.val (vL []), .sl 2 (cell7 o1 na1 xs1 nb1 ys1 nm1 n1 cs1 ++ cell7 o2 na2 xs2 nb2 ys2 nm2 n2 cs2)])), (1, some aQt0), (5001, some (aQt x.1 x.2))]⟩ (weak ⟨rfl, rfl, rfl, rfl, rfl, rfl, rfl, rfl, rfl, trivial⟩ ⟨rfl, rfl, rfl, trivial⟩ rfl) ?_
        repeat (first | refine r_op rfl rfl rfl rfl ?_ | refine r_skip rfl rfl rfl ?_ | refine .done ?_ | refine r_seq (T := TT) ?_ | refine r_region (T := TT) rfl ?_ | refine r_block (T := TT) ?_ | refine r_then (T := TT) rfl ?_ | refine r_else (T := TT) rfl ?_)
        refine r_idx (i := 1) (cs' := cell7 o2 na2 xs2 nb2 ys2 nm2 n2 cs2) (by decide) (arg_at3 _ rfl) (Nat.zero_lt_succ 6) rfl rfl rfl rfl rfl rfl rfl rfl ?_
        repeat (first | refine r_op rfl rfl rfl rfl ?_ | refine r_skip rfl rfl rfl ?_ | refine .done ?_ | refine r_seq (T := TT) ?_ | refine r_region (T := TT) rfl ?_ | refine r_block (T := TT) ?_ | refine r_then (T := TT) rfl ?_ | refine r_else (T := TT) rfl ?_)
        refine r_call (ih') rfl rfl rfl rfl rfl rfl rfl ?_
        repeat (first | refine r_op rfl rfl rfl rfl ?_ | refine r_skip rfl rfl rfl ?_ | refine .done ?_ | refine r_seq (T := TT) ?_ | refine r_region (T := TT) rfl ?_ | refine r_block (T := TT) ?_ | refine r_then (T := TT) rfl ?_ | refine r_else (T := TT) rfl ?_)
        refine r_appC 5002 (m1 := 1) (m2 := 1) TT_ok (by decide) (by decide) rfl rfl rfl rfl rfl rfl rfl rfl rfl rfl rfl (.own rfl rfl) rfl rfl rfl ?_
        repeat (first | refine r_op rfl rfl rfl rfl ?_ | refine r_skip rfl rfl rfl ?_ | refine .done ?_ | refine r_seq (T := TT) ?_ | refine r_region (T := TT) rfl ?_ | refine r_block (T := TT) ?_ | refine r_then (T := TT) rfl ?_ | refine r_else (T := TT) rfl ?_)
        refine r_round ⟨[(1, .d (dNm l)), (2, .d (dVl l)), (3, .box 0 0), (6, .box 1 0), (7, .d (dN .i64 0)), (12, .own 5002 2 5 28), (72, .d (.leaf (.sl 2 (cell7 o1 na1 xs1 nb1 ys1 nm1 n1 cs1 ++ cell7 o2 na2 xs2 nb2 ys2 nm2 n2 cs2)))), (73, .d (dN .i64 2)), (74, .d (dN .i64 2))], [(0, some ([.val (.int .i64 (B4.mul).code)] ++ aQ0 ++ [.val (vL []), .sl 2 (cell7 o1 na1 xs1 nb1 ys1 nm1 n1 cs1 ++ cell7 o2 na2 xs2 nb2 ys2 nm2 n2 cs2)])), (1, some aQt0), (5002, some (aQt x.1 x.2 ++ aQt y.1 y.2))]⟩ (weak ⟨rfl, rfl, rfl, rfl, rfl, rfl, rfl, rfl, rfl, trivial⟩ ⟨rfl, rfl, rfl, trivial⟩ rfl) ?_
        repeat (first | refine r_op rfl rfl rfl rfl ?_ | refine r_skip rfl rfl rfl ?_ | refine .done ?_ | refine r_seq (T := TT) ?_ | refine r_region (T := TT) rfl ?_ | refine r_block (T := TT) ?_ | refine r_then (T := TT) rfl ?_ | refine r_else (T := TT) rfl ?_)
        refine r_oidx (i := 0) (by decide) rfl rfl rfl rfl rfl rfl rfl rfl rfl ?_
        iterate 2 (first | refine r_op rfl rfl rfl rfl ?_ | refine r_skip rfl rfl rfl ?_)
        refine r_oidx (i := 1) (by decide) rfl rfl rfl rfl rfl rfl rfl rfl rfl ?_
        iterate 1 (first | refine r_op rfl rfl rfl rfl ?_ | refine r_skip rfl rfl rfl ?_)
        refine r_call (c) rfl rfl rfl rfl rfl rfl rfl ?_
        repeat (first | refine r_op rfl rfl rfl rfl ?_ | refine r_skip rfl rfl rfl ?_ | refine .done ?_ | refine r_seq (T := TT) ?_ | refine r_region (T := TT) rfl ?_ | refine r_block (T := TT) ?_ | refine r_then (T := TT) rfl ?_ | refine r_else (T := TT) rfl ?_)
        exact r_fin (T := TT) rfl rfl
      | ok z =>
        rw [hr] at c
        refine callOK_of TT_ok mixT Tryz.func22 rfl rfl (Nat.le_of_ble_eq_true rfl) ?_
        repeat (first | refine r_op rfl rfl rfl rfl ?_ | refine r_skip rfl rfl rfl ?_ | refine .done ?_ | refine r_seq (T := TT) ?_ | refine r_region (T := TT) rfl ?_ | refine r_block (T := TT) ?_ | refine r_then (T := TT) rfl ?_ | refine r_else (T := TT) rfl ?_)
        refine r_unroll 3 ?_
        refine r_round ⟨[(1, .d (dNm l)), (2, .d (dVl l)), (3, .box 0 0), (6, .box 1 0), (7, .d (dN .i64 0)), (12, .nil), (72, .d (.leaf (.sl 2 (cell7 o1 na1 xs1 nb1 ys1 nm1 n1 cs1 ++ cell7 o2 na2 xs2 nb2 ys2 nm2 n2 cs2)))), (73, .d (dN .i64 2)), (74, .d (dN .i64 0))], [(0, some ([.val (.int .i64 (B4.mul).code)] ++ aQ0 ++ [.val (vL []), .sl 2 (cell7 o1 na1 xs1 nb1 ys1 nm1 n1 cs1 ++ cell7 o2 na2 xs2 nb2 ys2 nm2 n2 cs2)])), (1, some aQt0)]⟩ (weak ⟨rfl, rfl, rfl, rfl, rfl, rfl, rfl, rfl, rfl, trivial⟩ ⟨rfl, rfl, trivial⟩ rfl) ?_
        repeat (first | refine r_op rfl rfl rfl rfl ?_ | refine r_skip rfl rfl rfl ?_ | refine .done ?_ | refine r_seq (T := TT) ?_ | refine r_region (T := TT) rfl ?_ | refine r_block (T := TT) ?_ | refine r_then (T := TT) rfl ?_ | refine r_else (T := TT) rfl ?_)
        refine r_idx (i := 0) (cs' := cell7 o1 na1 xs1 nb1 ys1 nm1 n1 cs1) (by decide) (arg_at2 _ _) (Nat.zero_lt_succ 6) rfl rfl rfl rfl rfl rfl rfl rfl ?_
        repeat (first | refine r_op rfl rfl rfl rfl ?_ | refine r_skip rfl rfl rfl ?_ | refine .done ?_ | refine r_seq (T := TT) ?_ | refine r_region (T := TT) rfl ?_ | refine r_block (T := TT) ?_ | refine r_then (T := TT) rfl ?_ | refine r_else (T := TT) rfl ?_)
        refine r_call (ih) rfl rfl rfl rfl rfl rfl rfl ?_
        repeat (first | refine r_op rfl rfl rfl rfl ?_ | refine r_skip rfl rfl rfl ?_ | refine .done ?_ | refine r_seq (T := TT) ?_ | refine r_region (T := TT) rfl ?_ | refine r_block (T := TT) ?_ | refine r_then (T := TT) rfl ?_ | refine r_else (T := TT) rfl ?_)
        refine r_appC 5001 (m1 := 0) (m2 := 1) TT_ok (by decide) (by decide) rfl rfl rfl rfl rfl rfl rfl rfl rfl rfl rfl (.nil rfl rfl) rfl rfl rfl ?_
        repeat (first | refine r_op rfl rfl rfl rfl ?_ | refine r_skip rfl rfl rfl ?_ | refine .done ?_ | refine r_seq (T := TT) ?_ | refine r_region (T := TT) rfl ?_ | refine r_block (T := TT) ?_ | refine r_then (T := TT) rfl ?_ | refine r_else (T := TT) rfl ?_)
        refine r_round ⟨[(1, .d (dNm l)), (2, .d (dVl l)), (3, .box 0 0), (6, .box 1 0), (7, .d (dN .i64 0)), (12, .own 5001 1 5 28), (72, .d (.leaf (.sl 2 (cell7 o1 na1 xs1 nb1 ys1 nm1 n1 cs1 ++ cell7 o2 na2 xs2 nb2 ys2 nm2 n2 cs2)))), (73, .d (dN .i64 2)), (74, .d (dN .i64 1))], [(0, some ([.val (.int .i64 (B4.mul).code)] ++ aQ0 ++ [.val (vL []), .sl 2 (cell7 o1 na1 xs1 nb1 ys1 nm1 n1 cs1 ++ cell7 o2 na2 xs2 nb2 ys2 nm2 n2 cs2)])), (1, some aQt0), (5001, some (aQt x.1 x.2))]⟩ (weak ⟨rfl, rfl, rfl, rfl, rfl, rfl, rfl, rfl, rfl, trivial⟩ ⟨rfl, rfl, rfl, trivial⟩ rfl) ?_
        repeat (first | refine r_op rfl rfl rfl rfl ?_ | refine r_skip rfl rfl rfl ?_ | refine .done ?_ | refine r_seq (T := TT) ?_ | refine r_region (T := TT) rfl ?_ | refine r_block (T := TT) ?_ | refine r_then (T := TT) rfl ?_ | refine r_else (T := TT) rfl ?_)
        refine r_idx (i := 1) (cs' := cell7 o2 na2 xs2 nb2 ys2 nm2 n2 cs2) (by decide) (arg_at3 _ rfl) (Nat.zero_lt_succ 6) rfl rfl rfl rfl rfl rfl rfl rfl ?_
        repeat (first | refine r_op rfl rfl rfl rfl ?_ | refine r_skip rfl rfl rfl ?_ | refine .done ?_ | refine r_seq (T := TT) ?_ | refine r_region (T := TT) rfl ?_ | refine r_block (T := TT) ?_ | refine r_then (T := TT) rfl ?_ | refine r_else (T := TT) rfl ?_)
        refine r_call (ih') rfl rfl rfl rfl rfl rfl rfl ?_
        repeat (first | refine r_op rfl rfl rfl rfl ?_ | refine r_skip rfl rfl rfl ?_ | refine .done ?_ | refine r_seq (T := TT) ?_ | refine r_region (T := TT) rfl ?_ | refine r_block (T := TT) ?_ | refine r_then (T := TT) rfl ?_ | refine r_else (T := TT) rfl ?_)
        refine r_appC 5002 (m1 := 1) (m2 := 1) TT_ok (by decide) (by decide) rfl rfl rfl rfl rfl rfl rfl rfl rfl rfl rfl (.own rfl rfl) rfl rfl rfl ?_
        repeat (first | refine r_op rfl rfl rfl rfl ?_ | refine r_skip rfl rfl rfl ?_ | refine .done ?_ | refine r_seq (T := TT) ?_ | refine r_region (T := TT) rfl ?_ | refine r_block (T := TT) ?_ | refine r_then (T := TT) rfl ?_ | refine r_else (T := TT) rfl ?_)
        refine r_round ⟨[(1, .d (dNm l)), (2, .d (dVl l)), (3, .box 0 0), (6, .box 1 0), (7, .d (dN .i64 0)), (12, .own 5002 2 5 28), (72, .d (.leaf (.sl 2 (cell7 o1 na1 xs1 nb1 ys1 nm1 n1 cs1 ++ cell7 o2 na2 xs2 nb2 ys2 nm2 n2 cs2)))), (73, .d (dN .i64 2)), (74, .d (dN .i64 2))], [(0, some ([.val (.int .i64 (B4.mul).code)] ++ aQ0 ++ [.val (vL []), .sl 2 (cell7 o1 na1 xs1 nb1 ys1 nm1 n1 cs1 ++ cell7 o2 na2 xs2 nb2 ys2 nm2 n2 cs2)])), (1, some aQt0), (5002, some (aQt x.1 x.2 ++ aQt y.1 y.2))]⟩ (weak ⟨rfl, rfl, rfl, rfl, rfl, rfl, rfl, rfl, rfl, trivial⟩ ⟨rfl, rfl, rfl, trivial⟩ rfl) ?_
        repeat (first | refine r_op rfl rfl rfl rfl ?_ | refine r_skip rfl rfl rfl ?_ | refine .done ?_ | refine r_seq (T := TT) ?_ | refine r_region (T := TT) rfl ?_ | refine r_block (T := TT) ?_ | refine r_then (T := TT) rfl ?_ | refine r_else (T := TT) rfl ?_)
        refine r_oidx (i := 0) (by decide) rfl rfl rfl rfl rfl rfl rfl rfl rfl ?_
        iterate 2 (first | refine r_op rfl rfl rfl rfl ?_ | refine r_skip rfl rfl rfl ?_)
        refine r_oidx (i := 1) (by decide) rfl rfl rfl rfl rfl rfl rfl rfl rfl ?_
        iterate 1 (first | refine r_op rfl rfl rfl rfl ?_ | refine r_skip rfl rfl rfl ?_)
        refine r_call (c) rfl rfl rfl rfl rfl rfl rfl ?_
        repeat (first | refine r_op rfl rfl rfl rfl ?_ | refine r_skip rfl rfl rfl ?_ | refine .done ?_ | refine r_seq (T := TT) ?_ | refine r_region (T := TT) rfl ?_ | refine r_block (T := TT) ?_ | refine r_then (T := TT) rfl ?_ | refine r_else (T := TT) rfl ?_)
        exact r_fin (T := TT) rfl rfl
set_option maxHeartbeats 4000000 in
theorem ok_u_Eval_div {a b : Ex} (henv : EnvOK (envF l)) (ho : okE a) (ho' : okE b) (hw : wtE a + wtE b ≤ 1000000) (ih : CallOK Tryz.prog 22 [dE a, dNm l, dVl l] (toRV (evE (envF l) a))) (ih' : CallOK Tryz.prog 22 [dE b, dNm l, dVl l] (toRV (evE (envF l) b))) : CallOK Tryz.prog 22 [dE (.bin .div a b), dNm l, dVl l] (toRV (evE (envF l) (.bin .div a b))) := by
  obtain ⟨o1, na1, xs1, nb1, ys1, nm1, n1, cs1, hA⟩ := aE_form a
  obtain ⟨o2, na2, xs2, nb2, ys2, nm2, n2, cs2, hB⟩ := aE_form b
  rw [show dE (.bin .div a b) = .agg ([.val (.int .i64 (B4.div).code)] ++ aQ0 ++ [.val (vL []), .sl 2 (aE a ++ aE b)]) from congrArg DV.agg (aE_bin .div a b), hA, hB]
  rw [show dE a = .agg (cell7 o1 na1 xs1 nb1 ys1 nm1 n1 cs1) from congrArg DV.agg hA] at ih
  rw [show dE b = .agg (cell7 o2 na2 xs2 nb2 ys2 nm2 n2 cs2) from congrArg DV.agg hB] at ih'
  cases ha : evE (envF l) a with
  | error z =>
    have hz := ev_err ha
    rw [ha] at ih
    rw [show evE (envF l) (.bin .div a b) = .error z by simp only [evE, ha]]
    refine callOK_of TT_ok mixT Tryz.func22 rfl rfl (Nat.le_of_ble_eq_true rfl) ?_
    repeat (first | refine r_op rfl rfl rfl rfl ?_ | refine r_skip rfl rfl rfl ?_ | refine .done ?_ | refine r_seq (T := TT) ?_ | refine r_region (T := TT) rfl ?_ | refine r_block (T := TT) ?_ | refine r_then (T := TT) rfl ?_ | refine r_else (T := TT) rfl ?_)
    refine r_unroll 3 ?_
    refine r_round ⟨[(1, .d (dNm l)), (2, .d (dVl l)), (3, .box 0 0), (6, .box 1 0), (7, .d (dN .i64 0)), (12, .nil), (72, .d (.leaf (.sl 2 (cell7 o1 na1 xs1 nb1 ys1 nm1 n1 cs1 ++ cell7 o2 na2 xs2 nb2 ys2 nm2 n2 cs2)))), (73, .d (dN .i64 2)), (74, .d (dN .i64 0))], [(0, some ([.val (.int .i64 (B4.div).code)] ++ aQ0 ++ [.val (vL []), .sl 2 (cell7 o1 na1 xs1 nb1 ys1 nm1 n1 cs1 ++ cell7 o2 na2 xs2 nb2 ys2 nm2 n2 cs2)])), (1, some aQt0)]⟩ (weak ⟨rfl, rfl, rfl, rfl, rfl, rfl, rfl, rfl, rfl, trivial⟩ ⟨rfl, rfl, trivial⟩ rfl) ?_
    repeat (first | refine r_op rfl rfl rfl rfl ?_ | refine r_skip rfl rfl rfl ?_ | refine .done ?_ | refine r_seq (T := TT) ?_ | refine r_region (T := TT) rfl ?_ | refine r_block (T := TT) ?_ | refine r_then (T := TT) rfl ?_ | refine r_else (T := TT) rfl ?_)
    refine r_idx (i := 0) (cs' := cell7 o1 na1 xs1 nb1 ys1 nm1 n1 cs1) (by decide) (arg_at2 _ _) (Nat.zero_lt_succ 6) rfl rfl rfl rfl rfl rfl rfl rfl ?_
    repeat (first | refine r_op rfl rfl rfl rfl ?_ | refine r_skip rfl rfl rfl ?_ | refine .done ?_ | refine r_seq (T := TT) ?_ | refine r_region (T := TT) rfl ?_ | refine r_block (T := TT) ?_ | refine r_then (T := TT) rfl ?_ | refine r_else (T := TT) rfl ?_)
    refine r_call (ih) rfl rfl rfl rfl rfl rfl rfl ?_
    repeat (first | refine r_op rfl rfl rfl rfl ?_ | refine r_skip rfl rfl rfl ?_ | refine .done ?_)
    repeat refine r_seq (T := TT) ?_
    refine r_region (T := TT) rfl ?_
    iterate 1 (first | refine r_op rfl rfl rfl rfl ?_ | refine r_skip rfl rfl rfl ?_)
    refine r_eq (v' := .bool true) rfl rfl rfl rfl ?_ ?_
    · exact congrArg Value.bool ((by simpa using hz))
    repeat (first | refine r_op rfl rfl rfl rfl ?_ | refine r_skip rfl rfl rfl ?_ | refine .done ?_ | refine r_seq (T := TT) ?_ | refine r_region (T := TT) rfl ?_ | refine r_block (T := TT) ?_ | refine r_then (T := TT) rfl ?_ | refine r_else (T := TT) rfl ?_)
    exact r_fin (T := TT) rfl rfl
  | ok x =>
    obtain ⟨hx, hpx⟩ := ev_ok henv ho ha
    rw [ha] at ih
    cases hb : evE (envF l) b with
    | error z =>
      have hz := ev_err hb
      rw [hb] at ih'
      rw [show evE (envF l) (.bin .div a b) = .error z by simp only [evE, ha, hb]]
      refine callOK_of TT_ok mixT Tryz.func22 rfl rfl (Nat.le_of_ble_eq_true rfl) ?_
      repeat (first | refine r_op rfl rfl rfl rfl ?_ | refine r_skip rfl rfl rfl ?_ | refine .done ?_ | refine r_seq (T := TT) ?_ | refine r_region (T := TT) rfl ?_ | refine r_block (T := TT) ?_ | refine r_then (T := TT) rfl ?_ | refine r_else (T := TT) rfl ?_)
      refine r_unroll 3 ?_
      refine r_round ⟨[(1, .d (dNm l)), (2, .d (dVl l)), (3, .box 0 0), (6, .box 1 0), (7, .d (dN .i64 0)), (12, .nil), (72, .d (.leaf (.sl 2 (cell7 o1 na1 xs1 nb1 ys1 nm1 n1 cs1 ++ cell7 o2 na2 xs2 nb2 ys2 nm2 n2 cs2)))), (73, .d (dN .i64 2)), (74, .d (dN .i64 0))], [(0, some ([.val (.int .i64 (B4.div).code)] ++ aQ0 ++ [.val (vL []), .sl 2 (cell7 o1 na1 xs1 nb1 ys1 nm1 n1 cs1 ++ cell7 o2 na2 xs2 nb2 ys2 nm2 n2 cs2)])), (1, some aQt0)]⟩ (weak ⟨rfl, rfl, rfl, rfl, rfl, rfl, rfl, rfl, rfl, trivial⟩ ⟨rfl, rfl, trivial⟩ rfl) ?_
      repeat (first | refine r_op rfl rfl rfl rfl ?_ | refine r_skip rfl rfl rfl ?_ | refine .done ?_ | refine r_seq (T := TT) ?_ | refine r_region (T := TT) rfl ?_ | refine r_block (T := TT) ?_ | refine r_then (T := TT) rfl ?_ | refine r_else (T := TT) rfl ?_)
      refine r_idx (i := 0) (cs' := cell7 o1 na1 xs1 nb1 ys1 nm1 n1 cs1) (by decide) (arg_at2 _ _) (Nat.zero_lt_succ 6) rfl rfl rfl rfl rfl rfl rfl rfl ?_
      repeat (first | refine r_op rfl rfl rfl rfl ?_ | refine r_skip rfl rfl rfl ?_ | refine .done ?_ | refine r_seq (T := TT) ?_ | refine r_region (T := TT) rfl ?_ | refine r_block (T := TT) ?_ | refine r_then (T := TT) rfl ?_ | refine r_else (T := TT) rfl ?_)
      refine r_call (ih) rfl rfl rfl rfl rfl rfl rfl ?_
      repeat (first | refine r_op rfl rfl rfl rfl ?_ | refine r_skip rfl rfl rfl ?_ | refine .done ?_ | refine r_seq (T := TT) ?_ | refine r_region (T := TT) rfl ?_ | refine r_block (T := TT) ?_ | refine r_then (T := TT) rfl ?_ | refine r_else (T := TT) rfl ?_)
      refine r_appC 5001 (m1 := 0) (m2 := 1) TT_ok (by decide) (by decide) rfl rfl rfl rfl rfl rfl rfl rfl rfl rfl rfl (.nil rfl rfl) rfl rfl rfl ?_
      repeat (first | refine r_op rfl rfl rfl rfl ?_ | refine r_skip rfl rfl rfl ?_ | refine .done ?_ | refine r_seq (T := TT) ?_ | refine r_region (T := TT) rfl ?_ | refine r_block (T := TT) ?_ | refine r_then (T := TT) rfl ?_ | refine r_else (T := TT) rfl ?_)
      refine r_round ⟨[(1, .d (dNm l)), (2, .d (dVl l)), (3, .box 0 0), (6, .box 1 0), (7, .d (dN .i64 0)), (12, .own 5001 1 5 28), (72, .d (.leaf (.sl 2 (cell7 o1 na1 xs1 nb1 ys1 nm1 n1 cs1 ++ cell7 o2 na2 xs2 nb2 ys2 nm2 n2 cs2)))), (73, .d (dN .i64 2)), (74, .d (dN .i64 1))], [(0, some ([.val (.int .i64 (B4.div).code)] ++ aQ0 ++ [.val (vL []), .sl 2 (cell7 o1 na1 xs1 nb1 ys1 nm1 n1 cs1 ++ cell7 o2 na2 xs2 nb2 ys2 nm2 n2 cs2)])), (1, some aQt0), (5001, some (aQt x.1 x.2))]⟩ (weak ⟨rfl, rfl, rfl, rfl, rfl, rfl, rfl, rfl, rfl, trivial⟩ ⟨rfl, rfl, rfl, trivial⟩ rfl) ?_
      repeat (first | refine r_op rfl rfl rfl rfl ?_ | refine r_skip rfl rfl rfl ?_ | refine .done ?_ | refine r_seq (T := TT) ?_ | refine r_region (T := TT) rfl ?_ | refine r_block (T := TT) ?_ | refine r_then (T := TT) rfl ?_ | refine r_else (T := TT) rfl ?_)
      refine r_idx (i := 1) (cs' := cell7 o2 na2 xs2 nb2 ys2 nm2 n2 cs2) (by decide) (arg_at3 _ rfl) (Nat.zero_lt_succ 6) rfl rfl rfl rfl rfl rfl rfl rfl ?_
      repeat (first | refine r_op rfl rfl rfl rfl ?_ | refine r_skip rfl rfl rfl ?_ | refine .done ?_ | refine r_seq (T := TT) ?_ | refine r_region (T := TT) rfl ?_ | refine r_block (T := TT) ?_ | refine r_then (T := TT) rfl ?_ | refine r_else (T := TT) rfl ?_)
      refine r_call (ih') rfl rfl rfl rfl rfl rfl rfl ?_
      repeat (first | refine r_op rfl rfl rfl rfl ?_ | refine r_skip rfl rfl rfl ?_ | refine .done ?_)
      repeat refine r_seq (T := TT) ?_
      refine r_region (T := TT) rfl ?_
      iterate 1 (first | refine r_op rfl rfl rfl rfl ?_ | refine r_skip rfl rfl rfl ?_)
      refine r_eq (v' := .bool true) rfl rfl rfl rfl ?_ ?_
      · exact congrArg Value.bool ((by simpa using hz))
      repeat (first | refine r_op rfl rfl rfl rfl ?_ | refine r_skip rfl rfl rfl ?_ | refine .done ?_ | refine r_seq (T := TT) ?_ | refine r_region (T := TT) rfl ?_ | refine r_block (T := TT) ?_ | refine r_then (T := TT) rfl ?_ | refine r_else (T := TT) rfl ?_)
      exact r_fin (T := TT) rfl rfl
    | ok y =>
      obtain ⟨hy, hpy⟩ := ev_ok henv ho' hb
      rw [hb] at ih'
      have hR : evE (envF l) (.bin .div a b) = opR .div x.1 x.2 y.1 y.2 := by simp only [evE, ha, hb]
      rw [hR]
      show CallOK Tryz.prog _ _ (toRV (divR x.1 x.2 y.1 y.2))
      have c := ok_u_Div hx hy (by omega) hpx hpy
      cases hr : divR x.1 x.2 y.1 y.2 with
      | error z =>
        rw [hr] at c
        refine callOK_of TT_ok mixT Tryz.func22 rfl rfl (Nat.le_of_ble_eq_true rfl) ?_
        repeat (first | refine r_op rfl rfl rfl rfl ?_ | refine r_skip rfl rfl rfl ?_ | refine .done ?_ | refine r_seq (T := TT) ?_ | refine r_region (T := TT) rfl ?_ | refine r_block (T := TT) ?_ | refine r_then (T := TT) rfl ?_ | refine r_else (T := TT) rfl ?_)
        refine r_unroll 3 ?_
        refine r_round ⟨[(1, .d (dNm l)), (2, .d (dVl l)), (3, .box 0 0), (6, .box 1 0), (7, .d (dN .i64 0)), (12, .nil), (72, .d (.leaf (.sl 2 (cell7 o1 na1 xs1 nb1 ys1 nm1 n1 cs1 ++ cell7 o2 na2 xs2 nb2 ys2 nm2 n2 cs2)))), (73, .d (dN .i64 2)), (74, .d (dN .i64 0))], [(0, some ([.val (.int .i64 (B4.div).code)] ++ aQ0 ++ [.val (vL []), .sl 2 (cell7 o1 na1 xs1 nb1 ys1 nm1 n1 cs1 ++ cell7 o2 na2 xs2 nb2 ys2 nm2 n2 cs2)])), (1, some aQt0)]⟩ (weak ⟨rfl, rfl, rfl, rfl, rfl, rfl, rfl, rfl, rfl, trivial⟩ ⟨rfl, rfl, trivial⟩ rfl) ?_
        repeat (first | refine r_op rfl rfl rfl rfl ?_ | refine r_skip rfl rfl rfl ?_ | refine .done ?_ | refine r_seq (T := TT) ?_ | refine r_region (T := TT) rfl ?_ | refine r_block (T := TT) ?_ | refine r_then (T := TT) rfl ?_ | refine r_else (T := TT) rfl ?_)
        refine r_idx (i := 0) (cs' := cell7 o1 na1 xs1 nb1 ys1 nm1 n1 cs1) (by decide) (arg_at2 _ _) (Nat.zero_lt_succ 6) rfl rfl rfl rfl rfl rfl rfl rfl ?_
        repeat (first | refine r_op rfl rfl rfl rfl ?_ | refine r_skip rfl rfl rfl ?_ | refine .done ?_ | refine r_seq (T := TT) ?_ | refine r_region (T := TT) rfl ?_ | refine r_block (T := TT) ?_ | refine r_then (T := TT) rfl ?_ | refine r_else (T := TT) rfl ?_)
        refine r_call (ih) rfl rfl rfl rfl rfl rfl rfl ?_
        repeat (first | refine r_op rfl rfl rfl rfl ?_ | refine r_skip rfl rfl rfl ?_ | refine .done ?_ | refine r_seq (T := TT) ?_ | refine r_region (T := TT) rfl ?_ | refine r_block (T := TT) ?_ | refine r_then (T := TT) rfl ?_ | refine r_else (T := TT) rfl ?_)
        refine r_appC 5001 (m1 := 0) (m2 := 1) TT_ok (by decide) (by decide) rfl rfl rfl rfl rfl rfl rfl rfl rfl rfl rfl (.nil rfl rfl) rfl rfl rfl ?_
        repeat (first | refine r_op rfl rfl rfl rfl ?_ | refine r_skip rfl rfl rfl ?_ | refine .done ?_ | refine r_seq (T := TT) ?_ | refine r_region (T := TT) rfl ?_ | refine r_block (T := TT) ?_ | refine r_then (T := TT) rfl ?_ | refine r_else (T := TT) rfl ?_)
        refine r_round ⟨[(1, .d (dNm l)), (2, .d (dVl l)), (3, .box 0 0), (6, .box 1 0), (7, .d (dN .i64 0)), (12, .own 5001 1 5 28), (72, .d (.leaf (.sl 2 (cell7 o1 na1 xs1 nb1 ys1 nm1 n1 cs1 ++ cell7 o2 na2 xs2 nb2 ys2 nm2 n2 cs2)))), (73, .d (dN .i64 2)), (74, .d (dN .i64 1))], [(0, some ([.val (.int .i64 (B4.div).code)] ++ aQ0 ++ [.val (vL []), .sl 2 (cell7 o1 na1 xs1 nb1 ys1 nm1 n1 cs1 ++ cell7 o2 na2 xs2 nb2 ys2 nm2 n2 cs2)])), (1, some aQt0), (5001, some (aQt x.1 x.2))]⟩ (weak ⟨rfl, rfl, rfl, rfl, rfl, rfl, rfl, rfl, rfl, trivial⟩ ⟨rfl, rfl, rfl, trivial⟩ rfl) ?_
        repeat (first | refine r_op rfl rfl rfl rfl ?_ | refine r_skip rfl rfl rfl ?_ | refine .done ?_ | refine r_seq (T := TT) ?_ | refine r_region (T := TT) rfl ?_ | refine r_block (T := TT) ?_ | refine r_then (T := TT) rfl ?_ | refine r_else (T := TT) rfl ?_)
        refine r_idx (i := 1) (cs' := cell7 o2 na2 xs2 nb2 ys2 nm2 n2 cs2) (by decide) (arg_at3 _ rfl) (Nat.zero_lt_succ 6) rfl rfl rfl rfl rfl rfl rfl rfl ?_
        repeat (first | refine r_op rfl rfl rfl rfl ?_ | refine r_skip rfl rfl rfl ?_ | refine .done ?_ | refine r_seq (T := TT) ?_ | refine r_region (T := TT) rfl ?_ | refine r_block (T := TT) ?_ | refine r_then (T := TT) rfl ?_ | refine r_else (T := TT) rfl ?_)
        refine r_call (ih') rfl rfl rfl rfl rfl rfl rfl ?_
        repeat (first | refine r_op rfl rfl rfl rfl ?_ | refine r_skip rfl rfl rfl ?_ | refine .done ?_ | refine r_seq (T := TT) ?_ | refine r_region (T := TT) rfl ?_ | refine r_block (T := TT) ?_ | refine r_then (T := TT) rfl ?_ | refine r_else (T := TT) rfl ?_)
        refine r_appC 5002 (m1 := 1) (m2 := 1) TT_ok (by decide) (by decide) rfl rfl rfl rfl rfl rfl rfl rfl rfl rfl rfl (.own rfl rfl) rfl rfl rfl ?_
        repeat (first | refine r_op rfl rfl rfl rfl ?_ | refine r_skip rfl rfl rfl ?_ | refine .done ?_ | refine r_seq (T := TT) ?_ | refine r_region (T := TT) rfl ?_ | refine r_block (T := TT) ?_ | refine r_then (T := TT) rfl ?_ | refine r_else (T := TT) rfl ?_)
        refine r_round ⟨[(1, .d (dNm l)), (2, .d (dVl l)), (3, .box 0 0), (6, .box 1 0), (7, .d (dN .i64 0)), (12, .own 5002 2 5 28), (72, .d (.leaf (.sl 2 (cell7 o1 na1 xs1 nb1 ys1 nm1 n1 cs1 ++ cell7 o2 na2 xs2 nb2 ys2 nm2 n2 cs2)))), (73, .d (dN .i64 2)), (74, .d (dN .i64 2))], [(0, some ([.val (.int .i64 (B4.div).code)] ++ aQ0 ++ [.val (vL []), .sl 2 (cell7 o1 na1 xs1 nb1 ys1 nm1 n1 cs1 ++ cell7 o2 na2 xs2 nb2 ys2 nm2 n2 cs2)])), (1, some aQt0), (5002, some (aQt x.1 x.2 ++ aQt y.1 y.2))]⟩ (weak ⟨rfl, rfl, rfl, rfl, rfl, rfl, rfl, rfl, rfl, trivial⟩ ⟨rfl, rfl, rfl, trivial⟩ rfl) ?_
        repeat (first | refine r_op rfl rfl rfl rfl ?_ | refine r_skip rfl rfl rfl ?_ | refine .done ?_ | refine r_seq (T := TT) ?_ | refine r_region (T := TT) rfl ?_ | refine r_block (T := TT) ?_ | refine r_then (T := TT) rfl ?_ | refine r_else (T := TT) rfl ?_)
        refine r_oidx (i := 0) (by decide) rfl rfl rfl rfl rfl rfl rfl rfl rfl ?_
        iterate 2 (first | refine r_op rfl rfl rfl rfl ?_ | refine r_skip rfl rfl rfl ?_)
        refine r_oidx (i := 1) (by decide) rfl rfl rfl rfl rfl rfl rfl rfl rfl ?_
        iterate 1 (first | refine r_op rfl rfl rfl rfl ?_ | refine r_skip rfl rfl rfl ?_)
        refine r_call (c) rfl rfl rfl rfl rfl rfl rfl ?_
        repeat (first | refine r_op rfl rfl rfl rfl ?_ | refine r_skip rfl rfl rfl ?_ | refine .done ?_ | refine r_seq (T := TT) ?_ | refine r_region (T := TT) rfl ?_ | refine r_block (T := TT) ?_ | refine r_then (T := TT) rfl ?_ | refine r_else (T := TT) rfl ?_)
        exact r_fin (T := TT) rfl rfl
      | ok z =>
        rw [hr] at c
        refine callOK_of TT_ok mixT Tryz.func22 rfl rfl (Nat.le_of_ble_eq_true rfl) ?_
        repeat (first | refine r_op rfl rfl rfl rfl ?_ | refine r_skip rfl rfl rfl ?_ | refine .done ?_ | refine r_seq (T := TT) ?_ | refine r_region (T := TT) rfl ?_ | refine r_block (T := TT) ?_ | refine r_then (T := TT) rfl ?_ | refine r_else (T := TT) rfl ?_)
        refine r_unroll 3 ?_
        refine r_round ⟨[(1, .d (dNm l)), (2, .d (dVl l)), (3, .box 0 0), (6, .box 1 0), (7, .d (dN .i64 0)), (12, .nil), (72, .d (.leaf (.sl 2 (cell7 o1 na1 xs1 nb1 ys1 nm1 n1 cs1 ++ cell7 o2 na2 xs2 nb2 ys2 nm2 n2 cs2)))), (73, .d (dN .i64 2)), (74, .d (dN .i64 0))], [(0, some ([.val (.int .i64 (B4.div).code)] ++ aQ0 ++ [.val (vL []), .sl 2 (cell7 o1 na1 xs1 nb1 ys1 nm1 n1 cs1 ++ cell7 o2 na2 xs2 nb2 ys2 nm2 n2 cs2)])), (1, some aQt0)]⟩ (weak ⟨rfl, rfl, rfl, rfl, rfl, rfl, rfl, rfl, rfl, trivial⟩ ⟨rfl, rfl, trivial⟩ rfl) ?_
        repeat (first | refine r_op rfl rfl rfl rfl ?_ | refine r_skip rfl rfl rfl ?_ | refine .done ?_ | refine r_seq (T := TT) ?_ | refine r_region (T := TT) rfl ?_ | refine r_block (T := TT) ?_ | refine r_then (T := TT) rfl ?_ | refine r_else (T := TT) rfl ?_)
        refine r_idx (i := 0) (cs' := cell7 o1 na1 xs1 nb1 ys1 nm1 n1 cs1) (by decide) (arg_at2 _ _) (Nat.zero_lt_succ 6) rfl rfl rfl rfl rfl rfl rfl rfl ?_
        repeat (first | refine r_op rfl rfl rfl rfl ?_ | refine r_skip rfl rfl rfl ?_ | refine .done ?_ | refine r_seq (T := TT) ?_ | refine r_region (T := TT) rfl ?_ | refine r_block (T := TT) ?_ | refine r_then (T := TT) rfl ?_ | refine r_else (T := TT) rfl ?_)
        refine r_call (ih) rfl rfl rfl rfl rfl rfl rfl ?_
        repeat (first | refine r_op rfl rfl rfl rfl ?_ | refine r_skip rfl rfl rfl ?_ | refine .done ?_ | refine r_seq (T := TT) ?_ | refine r_region (T := TT) rfl ?_ | refine r_block (T := TT) ?_ | refine r_then (T := TT) rfl ?_ | refine r_else (T := TT) rfl ?_)
        refine r_appC 5001 (m1 := 0) (m2 := 1) TT_ok (by decide) (by decide) rfl rfl rfl rfl rfl rfl rfl rfl rfl rfl rfl (.nil rfl rfl) rfl rfl rfl ?_
        repeat (first | refine r_op rfl rfl rfl rfl ?_ | refine r_skip rfl rfl rfl ?_ | refine .done ?_ | refine r_seq (T := TT) ?_ | refine r_region (T := TT) rfl ?_ | refine r_block (T := TT) ?_ | refine r_then (T := TT) rfl ?_ | refine r_else (T := TT) rfl ?_)
        refine r_round ⟨[(1, .d (dNm l)), (2, .d (dVl l)), (3, .box 0 0), (6, .box 1 0), (7, .d (dN .i64 0)), (12, .own 5001 1 5 28), (72, .d (.leaf (.sl 2 (cell7 o1 na1 xs1 nb1 ys1 nm1 n1 cs1 ++ cell7 o2 na2 xs2 nb2 ys2 nm2 n2 cs2)))), (73, .d (dN .i64 2)), (74, .d (dN .i64 1))], [(0, some ([.val (.int .i64 (B4.div).code)] ++ aQ0 ++ [.val (vL []), .sl 2 (cell7 o1 na1 xs1 nb1 ys1 nm1 n1 cs1 ++ cell7 o2 na2 xs2 nb2 ys2 nm2 n2 cs2)])), (1, some aQt0), (5001, some (aQt x.1 x.2))]⟩ (weak ⟨rfl, rfl, rfl, rfl, rfl, rfl, rfl, rfl, rfl, trivial⟩ ⟨rfl, rfl, rfl, trivial⟩ rfl) ?_
        repeat (first | refine r_op rfl rfl rfl rfl ?_ | refine r_skip rfl rfl rfl ?_ | refine .done ?_ | refine r_seq (T := TT) ?_ | refine r_region (T := TT) rfl ?_ | refine r_block (T := TT) ?_ | refine r_then (T := TT) rfl ?_ | refine r_else (T := TT) rfl ?_)
        refine r_idx (i := 1) (cs' := cell7 o2 na2 xs2 nb2 ys2 nm2 n2 cs2) (by decide) (arg_at3 _ rfl) (Nat.zero_lt_succ 6) rfl rfl rfl rfl rfl rfl rfl rfl ?_
        repeat (first | refine r_op rfl rfl rfl rfl ?_ | refine r_skip rfl rfl rfl ?_ | refine .done ?_ | refine r_seq (T := TT) ?_ | refine r_region (T := TT) rfl ?_ | refine r_block (T := TT) ?_ | refine r_then (T := TT) rfl ?_ | refine r_else (T := TT) rfl ?_)
        refine r_call (ih') rfl rfl rfl rfl rfl rfl rfl ?_
        repeat (first | refine r_op rfl rfl rfl rfl ?_ | refine r_skip rfl rfl rfl ?_ | refine .done ?_ | refine r_seq (T := TT) ?_ | refine r_region (T := TT) rfl ?_ | refine r_block (T := TT) ?_ | refine r_then (T := TT) rfl ?_ | refine r_else (T := TT) rfl ?_)
        refine r_appC 5002 (m1 := 1) (m2 := 1) TT_ok (by decide) (by decide) rfl rfl rfl rfl rfl rfl rfl rfl rfl rfl rfl (.own rfl rfl) rfl rfl rfl ?_
        repeat (first | refine r_op rfl rfl rfl rfl ?_ | refine r_skip rfl rfl rfl ?_ | refine .done ?_ | refine r_seq (T := TT) ?_ | refine r_region (T := TT) rfl ?_ | refine r_block (T := TT) ?_ | refine r_then (T := TT) rfl ?_ | refine r_else (T := TT) rfl ?_)
        refine r_round ⟨[(1, .d (dNm l)), (2, .d (dVl l)), (3, .box 0 0), (6, .box 1 0), (7, .d (dN .i64 0)), (12, .own 5002 2 5 28), (72, .d (.leaf (.sl 2 (cell7 o1 na1 xs1 nb1 ys1 nm1 n1 cs1 ++ cell7 o2 na2 xs2 nb2 ys2 nm2 n2 cs2)))), (73, .d (dN .i64 2)), (74, .d (dN .i64 2))], [(0, some ([.val (.int .i64 (B4.div).code)] ++ aQ0 ++ [.val (vL []), .sl 2 (cell7 o1 na1 xs1 nb1 ys1 nm1 n1 cs1 ++ cell7 o2 na2 xs2 nb2 ys2 nm2 n2 cs2)])), (1, some aQt0), (5002, some (aQt x.1 x.2 ++ aQt y.1 y.2))]⟩ (weak ⟨rfl, rfl, rfl, rfl, rfl, rfl, rfl, rfl, rfl, trivial⟩ ⟨rfl, rfl, rfl, trivial⟩ rfl) ?_
        repeat (first | refine r_op rfl rfl rfl rfl ?_ | refine r_skip rfl rfl rfl ?_ | refine .done ?_ | refine r_seq (T := TT) ?_ | refine r_region (T := TT) rfl ?_ | refine r_block (T := TT) ?_ | refine r_then (T := TT) rfl ?_ | refine r_else (T := TT) rfl ?_)
        refine r_oidx (i := 0) (by decide) rfl rfl rfl rfl rfl rfl rfl rfl rfl ?_
        iterate 2 (first | refine r_op rfl rfl rfl rfl ?_ | refine r_skip rfl rfl rfl ?_)
        refine r_oidx (i := 1) (by decide) rfl rfl rfl rfl rfl rfl rfl rfl rfl ?_
        iterate 1 (first | refine r_op rfl rfl rfl rfl ?_ | refine r_skip rfl rfl rfl ?_)
        refine r_call (c) rfl rfl rfl rfl rfl rfl rfl ?_
        repeat (first | refine r_op rfl rfl rfl rfl ?_ | refine r_skip rfl rfl rfl ?_ | refine .done ?_ | refine r_seq (T := TT) ?_ | refine r_region (T := TT) rfl ?_ | refine r_block (T := TT) ?_ | refine r_then (T := TT) rfl ?_ | refine r_else (T := TT) rfl ?_)
        exact r_fin (T := TT) rfl rfl
end
end Go.Proofs.YtmpadildchphgaaGreatDoor
namespace Go.Proofs.YtmpadildchphgaaGreatDoor
open Go.RowKit
theorem ok_u_Eval {l : EL} (hs : Sorted l) (hl : l.length ≤ 1000000) (hv : ∀ x ∈ l, SzQ 400 x.2.1 ∧ inP x.2.2 = true) : ∀ e, okE e → wtE e ≤ 1000000 → CallOK Tryz.prog 22 [dE e, dNm l, dVl l] (toRV (evE (envF l) e))
  | .num _ _, ho, _ => ok_u_Eval_num ho
  | .nam _, _, _ => ok_u_Eval_nam hs hl hv
  | .neg a, ho, hw => ok_u_Eval_neg (env_of hv) ho hw (ok_u_Eval hs hl hv a ho hw)
  | .bin .add a b, ho, hw => by
    have hw' : wtE a + wtE b + 1 ≤ 1000000 := hw
    exact ok_u_Eval_add (env_of hv) ho.1 ho.2 (by omega) (ok_u_Eval hs hl hv a ho.1 (by omega)) (ok_u_Eval hs hl hv b ho.2 (by omega))
  | .bin .sub a b, ho, hw => by
    have hw' : wtE a + wtE b + 1 ≤ 1000000 := hw
    exact ok_u_Eval_sub (env_of hv) ho.1 ho.2 (by omega) (ok_u_Eval hs hl hv a ho.1 (by omega)) (ok_u_Eval hs hl hv b ho.2 (by omega))
  | .bin .mul a b, ho, hw => by
    have hw' : wtE a + wtE b + 1 ≤ 1000000 := hw
    exact ok_u_Eval_mul (env_of hv) ho.1 ho.2 (by omega) (ok_u_Eval hs hl hv a ho.1 (by omega)) (ok_u_Eval hs hl hv b ho.2 (by omega))
  | .bin .div a b, ho, hw => by
    have hw' : wtE a + wtE b + 1 ≤ 1000000 := hw
    exact ok_u_Eval_div (env_of hv) ho.1 ho.2 (by omega) (ok_u_Eval hs hl hv a ho.1 (by omega)) (ok_u_Eval hs hl hv b ho.2 (by omega))
section
variable {l : EL}
end
end Go.Proofs.YtmpadildchphgaaGreatDoor
namespace Go.Proofs.YtmpadildchphgaaGreatDoor
open Go.ChangeShapes Go.WideShapes Go.ChangeAt Go.RowKit Go.Joins
def avF {H : Type} : Nat → DataW H → Option (List AV)
  | 0, _ => none
  | n + 1, d => match d with
    | .lit (.bool b) => some [.val (.bool b)]
    | .lit (.int k i) => some [.val (.int k i)]
    | .lit (.string l) => some [.val (.string ⟨l.toArray⟩)]
    | .nil => some [.sl 0 []]
    | .slice es _ => match mapO (avF n) es with
      | some rows => some [.sl rows.length rows.flatten]
      | none => none
    | .agg es => match mapO (avF n) es with
      | some ps => some ps.flatten
      | none => none
    | _ => none
theorem mapO_ext {α β : Type} {f g : α → Option β} : ∀ {xs : List α} {ys zs : List β}, (∀ x ∈ xs, ∀ y z, f x = some y → g x = some z → y = z) → mapO f xs = some ys → mapO g xs = some zs → ys = zs
  | [], ys, zs, _, h, k => by simp only [mapO, Option.some.injEq] at h k; rw [← h, ← k]
  | x :: xs, ys, zs, hfg, h, k => by
    simp only [mapO] at h k
    cases h1 : f x with
    | none => rw [h1] at h; simp at h
    | some y =>
      cases h2 : mapO f xs with
      | none => rw [h1, h2] at h; simp at h
      | some ys' =>
        cases k1 : g x with
        | none => rw [k1] at k; simp at k
        | some z =>
          cases k2 : mapO g xs with
          | none => rw [k1, k2] at k; simp at k
          | some zs' =>
            rw [h1, h2] at h
            rw [k1, k2] at k
            simp only [Option.some.injEq] at h k
            rw [← h, ← k, hfg x (by simp) y z h1 k1, mapO_ext (fun x hx => hfg x (by simp [hx])) h2 k2]
theorem avF_det {H : Type} : ∀ (n m : Nat) (d : DataW H) (cs cs' : List AV), avF n d = some cs → avF m d = some cs' → cs = cs'
  | 0, _, _, _, _, h, _ => by simp [avF] at h
  | _ + 1, 0, _, _, _, _, h => by simp [avF] at h
  | n + 1, m + 1, d, cs, cs', h, h' => by
    have ih := avF_det (H := H) n m
    unfold avF at h h'
    split at h
    · simp_all
    · simp_all
    · simp_all
    · simp_all
    · simp only at h'
      split at h
      · split at h'
        · rename_i r1 h1 _ r2 h2
          have := mapO_ext (fun x _ y z => ih x y z) h1 h2
          subst this
          rw [← Option.some.inj h, ← Option.some.inj h']
        · cases h'
      · cases h
    · simp only at h'
      split at h
      · split at h'
        · rename_i r1 h1 _ r2 h2
          have := mapO_ext (fun x _ y z => ih x y z) h1 h2
          subst this
          rw [← Option.some.inj h, ← Option.some.inj h']
        · cases h'
      · cases h
    · cases h
theorem mapO_of {α β : Type} {f : α → Option β} : ∀ {xs : List α} {ys : List β}, xs.length = ys.length → (∀ (i : Nat) (x : α) (y : β), xs[i]? = some x → ys[i]? = some y → f x = some y) → mapO f xs = some ys
  | [], [], _, _ => rfl
  | [], _ :: _, h, _ => by cases h
  | _ :: _, [], h, _ => by cases h
  | x :: xs, y :: ys, h, hf => by
    simp only [mapO, hf 0 x y rfl rfl, mapO_of (xs := xs) (ys := ys) (by simpa using h) (fun i x y h1 h2 => hf (i + 1) x y (by simpa using h1) (by simpa using h2))]
def plainA (P : Program) (L : List TypeId) : Bool := L.all fun t => match P.underlying t with
  | some .bool => true
  | some (.int _) => true
  | some .string => true
  | some (.slice e) => L.elem e
  | some (.struct fs) => (fs.toList.all fun f => L.elem f.type) && tileB P 0 (P.cellsOf t) fs.toList
  | some (.array n e) => L.elem e && Nat.beq (n * P.cellsOf e) (P.cellsOf t)
  | _ => false
theorem flat_cm {w : World} {sz : Nat} : ∀ (n : Nat) (vs : List Value) (ps : List (List AV)), vs.length = n * sz → ps.length = n → (∀ i p, ps[i]? = some p → CM (fun _ => False) w p ((vs.drop (i * sz)).take sz)) → CM (fun _ => False) w ps.flatten vs
  | 0, vs, ps, h, hp, _ => by
    have h1 : vs = [] := List.eq_nil_of_length_eq_zero (by simpa using h)
    have h2 : ps = [] := List.eq_nil_of_length_eq_zero hp
    subst h1 h2
    exact CM.nil _ _
  | n + 1, vs, [], _, hp, _ => by cases hp
  | n + 1, vs, p :: ps, h, hp, hc => by
    have h0 := hc 0 p rfl
    rw [Nat.zero_mul, List.drop_zero] at h0
    have hr := flat_cm (w := w) (sz := sz) n (vs.drop sz) ps (by rw [List.length_drop, h, Nat.add_mul]; omega) (by simpa using hp) (fun i q hq => by
      have := hc (i + 1) q (by simpa using hq)
      rw [List.drop_drop, show sz + i * sz = (i + 1) * sz by rw [Nat.add_mul]; omega]
      exact this)
    rw [List.flatten_cons]
    have := h0.append hr
    rwa [List.take_append_drop] at this
theorem tile_flat {P : Program} {w : World} {vs : List Value} : ∀ (fs : List Field) (off : Nat) (ps : List (List AV)), tileB P off vs.length fs = true → ps.length = fs.length →
    (∀ (i : Nat) (f : Field) (p : List AV), fs[i]? = some f → ps[i]? = some p → CM (fun _ => False) w p ((vs.drop f.offset).take (P.cellsOf f.type))) → CM (fun _ => False) w ps.flatten (vs.drop off)
  | [], off, [], h, _, _ => by
    have := Nat.eq_of_beq_eq_true h
    subst this
    rw [List.drop_length]
    exact CM.nil _ _
  | [], _, _ :: _, _, h, _ => by cases h
  | _ :: _, _, [], _, h, _ => by cases h
  | f :: r, off, p :: ps, h, hl, hf => by
    simp only [tileB, Bool.and_eq_true] at h
    have ho := Nat.eq_of_beq_eq_true h.1
    have h1 := hf 0 f p rfl rfl
    have h3 := tile_flat r _ ps h.2 (by simpa using hl) (fun i g q hg hq => hf (i + 1) g q (by simpa using hg) (by simpa using hq))
    rw [ho] at h1
    rw [List.flatten_cons]
    have := h1.append h3
    rwa [← List.drop_drop, List.take_append_drop] at this
section
variable {H : Type} {enc : TypeId × Value → H} {W : World} {P : Program} {held : Bool}
theorem trod_av {L : List TypeId} (hL : plainA P L = true) : ∀ (n : Nat) (t : TypeId) (vs : List Value) (x : DataW H × List MemPlace), t ∈ L → DataW.trod enc P W 0 (fun _ => true) held n t vs = some x →
    ∃ cs, CM (fun _ => False) W cs vs ∧ avF n x.1 = some cs := by
  intro n
  induction n with
  | zero => intro t vs x _ h; simp [DataW.trod] at h
  | succ n ih =>
    intro t vs x ht h
    have hp := List.all_eq_true.1 hL t ht
    cases hu : P.underlying t with
    | none => rw [hu] at hp; simp at hp
    | some d =>
      rw [hu] at hp
      cases d with
      | bool =>
        obtain ⟨b, rfl, rfl⟩ := DataW.trod_bool hu h
        exact ⟨_, CM.cons (.val rfl) (CM.nil _ _), rfl⟩
      | int k =>
        obtain ⟨i, rfl, rfl, h1⟩ := DataW.trod_int hu h
        exact ⟨_, CM.cons (.val rfl) (CM.nil _ _), rfl⟩
      | string =>
        obtain ⟨s, rfl, rfl, h1⟩ := DataW.trod_string hu h
        exact ⟨_, CM.cons (.val rfl) (CM.nil _ _), by simp [avF]⟩
      | slice e =>
        have he : e ∈ L := by simpa using hp
        rcases DataW.trod_slice hu h with ⟨rfl, rfl⟩ | ⟨a, len, cap, elems, rest, m, hm, rfl, rfl, _, hlc, hcm, hel, hget, _, _⟩
        · exact ⟨_, CM.cons (.emp (Nat.le_refl _) (by omega) (fun _ => rfl)) (CM.nil _ _), rfl⟩
        · obtain rfl : m = n := by omega
          have hrow : ∀ i, i < len → ∃ (r : List AV) (us : List Value), W.cells? 0 (a.add (i * P.cellsOf e)) (P.cellsOf e) = some us ∧ CM (fun _ => False) W r us ∧ ∀ y, elems[i]? = some y → avF m y.1 = some r := by
            intro i hi
            have h1 := hget i hi
            have h2 : elems[i]? = some elems[i] := by simp
            rw [h2] at h1
            obtain ⟨us, h3, h4⟩ := Option.bind_eq_some_iff.1 h1
            obtain ⟨r, h5, h6⟩ := ih e us _ he h4
            exact ⟨r, us, h3, h5, fun y hy => by rw [h2] at hy; cases hy; exact h6⟩
          have hrows : ∀ k, k ≤ len → ∃ rows : List (List AV), rows.length = k ∧ ∀ i r, rows[i]? = some r → ∃ us : List Value, W.cells? 0 (a.add (i * P.cellsOf e)) (P.cellsOf e) = some us ∧ CM (fun _ => False) W r us ∧ ∀ y, elems[i]? = some y → avF m y.1 = some r := by
            intro k
            induction k with
            | zero => intro _; exact ⟨[], rfl, fun i r h => by simp at h⟩
            | succ k ihk =>
              intro hk
              obtain ⟨rows, h1, h2⟩ := ihk (by omega)
              obtain ⟨r, us, h3, h4, h5⟩ := hrow k (by omega)
              refine ⟨rows ++ [r], by simp [h1], fun i q hq => ?_⟩
              by_cases hi : i < rows.length
              · rw [List.getElem?_append_left hi] at hq; exact h2 i q hq
              · have hil := (List.getElem?_eq_some_iff.1 hq).1
                simp at hil
                have : i = k := by omega
                subst this
                rw [List.getElem?_append_right (by omega), h1, Nat.sub_self] at hq
                simp at hq
                subst hq
                exact ⟨us, h3, h4, h5⟩
          obtain ⟨rows, hl, hr⟩ := hrows len (Nat.le_refl _)
          have hmap : mapO (avF m) (elems.map (·.1)) = some rows := by
            refine mapO_of (by simp [hel, hl]) (fun i y r hy h2 => ?_)
            rw [List.getElem?_map] at hy
            cases hz : elems[i]? with
            | none => rw [hz] at hy; cases hy
            | some z =>
              rw [hz] at hy
              simp only [Option.map_some, Option.some.injEq] at hy
              obtain ⟨_, _, _, h5⟩ := hr i r h2
              rw [← hy]; exact h5 z hz
          have hsz : ∀ r ∈ rows, r.length = P.cellsOf e := by
            intro r hm
            obtain ⟨i, hi⟩ := List.getElem?_of_mem hm
            obtain ⟨us, h3, h4, _⟩ := hr i r hi
            rw [h4.1, (cells_at h3).1]
          refine ⟨[.sl len rows.flatten], CM.cons ?_ (CM.nil _ _), by simp only [avF, hmap, hl]⟩
          exact sl_of (rows := rows) (by unfold maxLen at hcm; omega) hlc hl hsz (fun i r hi => by obtain ⟨us, h3, h4, _⟩ := hr i r hi; exact ⟨us, h3, h4⟩)
      | struct fs =>
        simp only [Bool.and_eq_true] at hp
        obtain ⟨xs, m, hm, rfl, hlen, hxl, hget⟩ := DataW.trod_struct hu h
        obtain rfl : m = n := by omega
        have htile := hp.2
        rw [← hlen] at htile
        have hpart : ∀ k, k ≤ xs.length → ∃ ps : List (List AV), ps.length = k ∧ ∀ (i : Nat) (p : List AV) (f : Field), ps[i]? = some p → fs[i]? = some f → CM (fun _ => False) W p ((vs.drop f.offset).take (P.cellsOf f.type)) ∧ ∀ y : DataW H × List MemPlace, xs[i]? = some y → avF m y.1 = some p := by
          intro k
          induction k with
          | zero => intro _; exact ⟨[], rfl, fun i p f h => by simp at h⟩
          | succ k ihk =>
            intro hk
            obtain ⟨ps, h1, h2⟩ := ihk (by omega)
            have hkf : fs[k]? = some (fs[k]'(by omega)) := by simp
            have h3 := hget k _ hkf
            have h4 : xs[k]? = some xs[k] := by simp
            rw [h4] at h3
            have hfL : fs[k].type ∈ L := by have := List.all_eq_true.1 hp.1 fs[k] (by simp); simpa using this
            obtain ⟨p, h5, h6⟩ := ih _ _ _ hfL h3
            refine ⟨ps ++ [p], by simp [h1], fun i q f hq hf => ?_⟩
            by_cases hi : i < ps.length
            · rw [List.getElem?_append_left hi] at hq; exact h2 i q f hq hf
            · have hil := (List.getElem?_eq_some_iff.1 hq).1
              simp at hil
              have : i = k := by omega
              subst this
              rw [List.getElem?_append_right (by omega), h1, Nat.sub_self] at hq
              simp at hq
              subst hq
              rw [hkf] at hf
              cases hf
              exact ⟨h5, fun y hy => by rw [h4] at hy; cases hy; exact h6⟩
        obtain ⟨ps, h1, h2⟩ := hpart xs.length (Nat.le_refl _)
        refine ⟨ps.flatten, ?_, ?_⟩
        · have := tile_flat (w := W) (vs := vs) fs.toList 0 ps htile (by rw [h1, hxl]; simp) (fun i f p hf hp => (h2 i p f hp (by simpa using hf)).1)
          rwa [List.drop_zero] at this
        · have hmap : mapO (avF m) (xs.map (·.1)) = some ps := by
            refine mapO_of (by simp [h1]) (fun i y p hy hpi => ?_)
            rw [List.getElem?_map] at hy
            cases hz : xs[i]? with
            | none => rw [hz] at hy; cases hy
            | some z =>
              rw [hz] at hy
              simp only [Option.map_some, Option.some.injEq] at hy
              have hil : i < fs.size := by rw [← hxl]; exact (List.getElem?_eq_some_iff.1 hz).1
              rw [← hy]
              exact (h2 i p fs[i] hpi (by simp [hil])).2 z hz
          simp only [avF, hmap]
      | array k e =>
        simp only [Bool.and_eq_true] at hp
        have he : e ∈ L := by simpa using hp.1
        have hke := Nat.eq_of_beq_eq_true hp.2
        unfold DataW.trod at h
        rw [hu] at h
        simp only at h
        have hr : ∃ xs : List (DataW H × List MemPlace), x.1 = .agg (xs.map (·.1)) ∧ vs.length = P.cellsOf t ∧ (List.range k).mapM (fun i => DataW.trod enc P W 0 (fun _ => true) held n e ((vs.drop (i * P.cellsOf e)).take (P.cellsOf e))) = some xs := by
          split at h
          · rename_i hl
            obtain ⟨xs, h1, h2⟩ := Option.map_eq_some_iff.1 h
            exact ⟨xs, by rw [← h2], hl, h1⟩
          · cases h
        obtain ⟨xs, hx, hlen, hmm⟩ := hr
        obtain ⟨h1, h2⟩ := mapM_get hmm
        rw [List.length_range] at h1
        have hpart : ∀ j, j ≤ k → ∃ ps : List (List AV), ps.length = j ∧ ∀ (i : Nat) (p : List AV), ps[i]? = some p → CM (fun _ => False) W p ((vs.drop (i * P.cellsOf e)).take (P.cellsOf e)) ∧ ∀ y : DataW H × List MemPlace, xs[i]? = some y → avF n y.1 = some p := by
          intro j
          induction j with
          | zero => intro _; exact ⟨[], rfl, fun i p h => by simp at h⟩
          | succ j ihj =>
            intro hj
            obtain ⟨ps, h3, h4⟩ := ihj (by omega)
            obtain ⟨y, h5, h6⟩ := h2 j j (List.getElem?_range (by omega))
            obtain ⟨p, h7, h8⟩ := ih _ _ _ he h6
            refine ⟨ps ++ [p], by simp [h3], fun i q hq => ?_⟩
            by_cases hi : i < ps.length
            · rw [List.getElem?_append_left hi] at hq; exact h4 i q hq
            · have hil := (List.getElem?_eq_some_iff.1 hq).1
              simp at hil
              have : i = j := by omega
              subst this
              rw [List.getElem?_append_right (by omega), h3, Nat.sub_self] at hq
              simp at hq
              subst hq
              exact ⟨h7, fun z hz => by rw [h5] at hz; cases hz; exact h8⟩
        obtain ⟨ps, h3, h4⟩ := hpart k (Nat.le_refl _)
        refine ⟨ps.flatten, flat_cm k vs ps (by rw [hlen, ← hke]) h3 (fun i p hp => (h4 i p hp).1), ?_⟩
        have hmap : mapO (avF n) (xs.map (·.1)) = some ps := by
          refine mapO_of (by simp [h3, ← h1]) (fun i y p hy hpi => ?_)
          rw [List.getElem?_map] at hy
          cases hz : xs[i]? with
          | none => rw [hz] at hy; cases hy
          | some z =>
            rw [hz] at hy
            simp only [Option.map_some, Option.some.injEq] at hy
            rw [← hy]
            exact (h4 i p hpi).2 z hz
        rw [hx]
        simp only [avF, hmap]
      | _ => simp at hp
end
end Go.Proofs.YtmpadildchphgaaGreatDoor
namespace Go.Proofs.YtmpadildchphgaaGreatDoor
open Go.ChangeShapes Go.WideShapes Go.ChangeAt Go.RowKit Go.Joins
theorem laidVars_mem {P : Program} {W : World} {name : String} {d : DataW Unit} : ∀ {laid : List (String × DataW Unit)} {ps : List MemPlace}, DataW.LaidVars P W laid ps → (name, d) ∈ laid →
    ∃ g t cs fuel p, P.globalNamed name = some g ∧ (P.globals[g]?).map (·.type) = some t ∧ W.var? P name = some cs ∧ DataW.trod (fun _ => ()) P W 0 (fun _ => true) false fuel t cs.toList = some (d, p)
  | [], _, _, h => by cases h
  | (n, d') :: rest, ps, h, hm => by
    obtain ⟨g, t, cs, fuel, p, q, h1, h2, h3, h4, h5, _⟩ := h
    rcases List.mem_cons.1 hm with e | e
    · cases e
      exact ⟨g, t, cs, fuel, p, h1, h2, h3, h4⟩
    · exact laidVars_mem h5 e
theorem cells_u64 : Tryz.prog.cellsOf 98 = 1 := by kernel_rfl
theorem pow10_g : Tryz.prog.globalNamed "internal/strconv.uint64pow10" = some 1 := by kernel_rfl
theorem pow10_t : (Tryz.prog.globals[1]?).map (·.type) = some 158 := by kernel_rfl
theorem pow10_c : Tryz.prog.cellsOf 158 = 20 := by kernel_rfl
theorem laid_gl {P : Program} {W : World} {laid : List (String × DataW Unit)} {ps : List MemPlace} (hv : DataW.LaidVars P W laid ps) {name : String} {d : DataW Unit} (hm : (name, d) ∈ laid) {g t : Nat} (hg : P.globalNamed name = some g) (ht : (P.globals[g]?).map (·.type) = some t)
    {L : List TypeId} (hL : plainA P L = true) (htL : t ∈ L) {n : Nat} {cs : List AV} (hav : avF n d = some cs) {S : Nat → Prop} (hS : S = fun _ => False) : TV.M S (fun _ => 0) ⟨[], []⟩ W (.rp cs) (.pointer (some ⟨g, 0, none⟩)) := by
  subst hS
  obtain ⟨g', t', c0, fuel, p, h1, h2, h3, h4⟩ := laidVars_mem hv hm
  obtain rfl := Option.some.inj (hg.symm.trans h1)
  obtain rfl := Option.some.inj (ht.symm.trans h2)
  obtain ⟨cs', hc, ha⟩ := trod_av hL fuel _ _ _ htL h4
  have e := avF_det _ _ _ _ _ ha hav
  subst e
  unfold World.var? at h3
  rw [hg] at h3
  simp only [Option.bind_some] at h3
  split at h3
  · rename_i c1 e1 f1 hb
    cases h3
    refine ⟨g, 0, fun i => c0.getD i undef, rfl, fun h => h, (Array.getElem?_eq_some_iff.1 hb).1, fun i a hi => ?_, fun i a hi => ?_⟩
    · have hl : i < c0.size := by have := (List.getElem?_eq_some_iff.1 hi).1; rw [hc.1] at this; simpa using this
      rw [Nat.zero_add]
      simp [World.cell?, hb, hl]
    · have hl : i < c0.size := by have := (List.getElem?_eq_some_iff.1 hi).1; rw [hc.1] at this; simpa using this
      exact hc.2 i a _ hi (by simp [hl])
  · cases h3
theorem look_one {α : Type} {g : Nat} {c : α} {r : List (Nat × α)} {k : Nat} {x : α} (h : look ((g, c) :: r) k = some x) : (g = k ∧ c = x) ∨ look r k = some x := by
  by_cases e : g = k
  · subst e; rw [look_same] at h; exact .inl ⟨rfl, Option.some.inj h⟩
  · rw [look_ne _ _ e] at h; exact .inr h
theorem units_g : Tryz.prog.globalNamed "setsquare/unit.units" = some 0 := by kernel_rfl
theorem units_t : (Tryz.prog.globals[0]?).map (·.type) = some 81 := by kernel_rfl
theorem units_L : plainA Tryz.prog [81, 82, 9, 2] = true := by kernel_rfl
theorem tabs_of {laid : List (String × DataW Unit)} (hp : (laid.all fun x => x.2.handleName?.isNone) = true) (hm : ("internal/strconv.uint64pow10", Rows.laid_internal_strconv_uint64pow10) ∈ laid)
    (hm1 : ("setsquare/unit.units", Rows.laid_setsquare_unit_units) ∈ laid)
    {W : World} (h : laidMetH Tryz.prog laid W) : NoWord (fun _ => False) W := by
  rw [MakeChecks.laidMetH_plain _ _ _ hp] at h
  obtain ⟨ps, hv, _⟩ := h
  obtain ⟨g, t, cs, fuel, p, h1, h2, h3, h4⟩ := laidVars_mem hv hm
  obtain rfl := Option.some.inj (pow10_g.symm.trans h1)
  obtain rfl := Option.some.inj (pow10_t.symm.trans h2)
  have hd : (Rows.laid_internal_strconv_uint64pow10 : DataW Unit) = Lib.tabData .u64 Lib.pow10Tab := rfl
  rw [hd] at h4
  have ht : Lib.TabIs Tryz.prog W "internal/strconv.uint64pow10" .u64 Lib.pow10Tab := by
    unfold Lib.TabIs
    rw [h3, ← Lib.cells_of_tab Tryz.underlying158 Tryz.underlying98 cells_u64 pow10_c h4]
  refine ⟨Lib.tabBelow_of_tabIs ht, fun _ h => h.elim, fun k cs h => ?_⟩
  unfold GT at h
  rcases look_one h with ⟨rfl, rfl⟩ | h
  · exact laid_gl hv hm1 units_g units_t units_L (by simp) (n := 4) rfl rfl
  cases h
end Go.Proofs.YtmpadildchphgaaGreatDoor
namespace Go.Proofs.YtmpadildchphgaaGreatDoor
open Go.ChangeShapes Go.WideShapes Go.ChangeAt Go.RowKit Go.Joins
theorem divInt_is {n d a : Int} {b : Nat} (hd : d ≠ 0) (hb : b ≠ 0) (hc : Nat.Coprime a.natAbs b) (h : n * b = a * d) : Rat.divInt n d = ⟨a, b, hb, hc⟩ := by
  have h1 := Rat.num_divInt_den (⟨a, b, hb, hc⟩ : Rat)
  rw [← h1, Rat.divInt_eq_divInt_iff hd (by show (b : Int) ≠ 0; omega)]
  exact h
theorem dec_lt10 {n : Nat} (h0 : n ≠ 0) (h : n < 10) : dec n = [dg n] := by rw [dec_pos h0, show n / 10 = 0 by omega, dec_zero, show n % 10 = n by omega]; rfl
end Go.Proofs.YtmpadildchphgaaGreatDoor
namespace Go.Proofs.YtmpadildchphgaaGreatDoor
open Go.ChangeShapes Go.WideShapes Go.ChangeAt Go.RowKit Go.Joins
theorem szQ1 {q : Rat} (h1 : q.num.natAbs < 4294967296) (h2 : (q.den : Int).natAbs < 4294967296) : SzQ 1 q := ⟨.small h1, .small h2⟩
end Go.Proofs.YtmpadildchphgaaGreatDoor
namespace Go.Proofs.YtmpadildchphgaaGreatDoor
open Go.RowKit
theorem ok_l23_number (n : Int) (h1 : -9223372036854775808 ≤ n) (h2 : n < 9223372036854775808) (u : List UInt8) : CallOK Tryz.prog 40 [dN .i64 n, dL u] (.one (dE (.num (n : Rat) u))) := by
  refine callOK_of TT_ok mixT Tryz.func40 rfl rfl (Nat.le_of_ble_eq_true rfl) ?_
  repeat (first | refine r_op rfl rfl rfl rfl ?_ | refine r_skip rfl rfl rfl ?_ | refine .done ?_ | refine r_seq (T := TT) ?_ | refine r_region (T := TT) rfl ?_ | refine r_block (T := TT) ?_ | refine r_then (T := TT) rfl ?_ | refine r_else (T := TT) rfl ?_)
  refine r_call (ok_r2_FromInt n h1 h2 (q := (n : Rat)) rfl) rfl rfl rfl rfl rfl rfl rfl ?_
  repeat (first | refine r_op rfl rfl rfl rfl ?_ | refine r_skip rfl rfl rfl ?_ | refine .done ?_ | refine r_seq (T := TT) ?_ | refine r_region (T := TT) rfl ?_ | refine r_block (T := TT) ?_ | refine r_then (T := TT) rfl ?_ | refine r_else (T := TT) rfl ?_)
  exact r_fin (T := TT) rfl rfl
theorem sorted_nil : Sorted [] := fun i j a b _ h => by simp at h
theorem int_sz8 {n : Int} (h : n.natAbs < 4294967296) : SzQ 8 (n : Rat) := ⟨(Sz.small h).mono (by decide), (Sz.small (z := 1) (by decide)).mono (by decide)⟩
theorem ok_eval_nil (e : Ex) (ho : okE e) (hw : wtE e ≤ 1000000) {r : QR} (hr : evE (fun _ => none) e = r) : CallOK Tryz.prog 22 [dE e, dNm [], dVl []] (toRV r) := by
  have := ok_u_Eval sorted_nil (by decide) (fun x h => by cases h) e ho hw
  rw [← hr]
  exact this
theorem ok_l23_awake : CallOK Tryz.prog 10 [] (.one (dB true)) := by
  have f1 : fac [105, 110] = some (Rat.divInt 127 5) := rfl
  have f2 : fac [99, 109] = some ((10 : Int) : Rat) := rfl
  have f3 : fac [109, 109] = some ((1 : Int) : Rat) := rfl
  have a1 : ((2 : Int) : Rat) * Rat.divInt 127 5 = Rat.divInt 254 5 := by rw [← divInt_one, Rat.divInt_mul_divInt]; rfl
  have a2 : ((1 : Int) : Rat) * ((10 : Int) : Rat) + ((5 : Int) : Rat) * ((1 : Int) : Rat) = ((15 : Int) : Rat) := by rw [← Rat.intCast_mul, ← Rat.intCast_mul, ← Rat.intCast_add]; rfl
  have c1 := ok_eval_nil (.num ((2 : Int) : Rat) [105, 110]) (int_sz8 (by decide)) (by decide) (r := .ok (Rat.divInt 254 5, 1)) (by simp only [evE, f1, a1]; rfl)
  have c2 := ok_eval_nil (.bin .add (.num ((1 : Int) : Rat) [99, 109]) (.num ((5 : Int) : Rat) [109, 109])) ⟨int_sz8 (by decide), int_sz8 (by decide)⟩ (by decide) (r := .ok (((15 : Int) : Rat), 1)) (by
    have e1 : evE (fun _ => none) (.num ((1 : Int) : Rat) [99, 109]) = .ok (((1 : Int) : Rat) * ((10 : Int) : Rat), 1) := by simp only [evE, f2]; rfl
    have e2 : evE (fun _ => none) (.num ((5 : Int) : Rat) [109, 109]) = .ok (((5 : Int) : Rat) * ((1 : Int) : Rat), 1) := by simp only [evE, f3]; rfl
    have : evE (fun _ => none) (.bin .add (.num ((1 : Int) : Rat) [99, 109]) (.num ((5 : Int) : Rat) [109, 109])) = addR (((1 : Int) : Rat) * ((10 : Int) : Rat)) 1 (((5 : Int) : Rat) * ((1 : Int) : Rat)) 1 := by rw [evE, e1, e2]; rfl
    rw [this, addR, if_pos rfl, a2])
  have c3 := ok_eval_nil (.bin .add (.num ((1 : Int) : Rat) [99, 109]) (.num ((5 : Int) : Rat) [])) ⟨int_sz8 (by decide), int_sz8 (by decide)⟩ (by decide) (r := .error 8) (by
    have e1 : evE (fun _ => none) (.num ((1 : Int) : Rat) [99, 109]) = .ok (((1 : Int) : Rat) * ((10 : Int) : Rat), 1) := by simp only [evE, f2]; rfl
    have e2 : evE (fun _ => none) (.num ((5 : Int) : Rat) []) = .ok (((5 : Int) : Rat), 0) := rfl
    have : evE (fun _ => none) (.bin .add (.num ((1 : Int) : Rat) [99, 109]) (.num ((5 : Int) : Rat) [])) = addR (((1 : Int) : Rat) * ((10 : Int) : Rat)) 1 ((5 : Int) : Rat) 0 := by rw [evE, e1, e2]; rfl
    rw [this, addR, if_neg (by decide)])
  have hs1 : SzQ 8 (Rat.divInt 254 5) := .divInt ((Sz.small (by decide)).mono (by decide)) ((Sz.small (by decide)).mono (by decide)) (by decide)
  have t1 : fmtQt ⟨1, 2, by decide, by decide⟩ (-1) = [49, 47, 50, 32, 109, 109, 94, 45, 49] := by
    unfold fmtQt fmtQ fmt
    simp [dec_lt10]
    decide
  refine callOK_of TT_ok mixT Tryz.func10 rfl rfl (Nat.le_of_ble_eq_true rfl) ?_
  repeat (first | refine r_op rfl rfl rfl rfl ?_ | refine r_skip rfl rfl rfl ?_ | refine .done ?_ | refine r_seq (T := TT) ?_ | refine r_region (T := TT) rfl ?_ | refine r_block (T := TT) ?_ | refine r_then (T := TT) rfl ?_ | refine r_else (T := TT) rfl ?_)
  refine r_call (ok_l23_number 2 (by decide) (by decide) [105, 110]) rfl rfl rfl rfl rfl rfl rfl ?_
  refine r_call (c1) rfl rfl rfl rfl rfl rfl rfl ?_
  repeat (first | refine r_op rfl rfl rfl rfl ?_ | refine r_skip rfl rfl rfl ?_ | refine .done ?_ | refine r_seq (T := TT) ?_ | refine r_region (T := TT) rfl ?_ | refine r_block (T := TT) ?_ | refine r_then (T := TT) rfl ?_ | refine r_else (T := TT) rfl ?_)
  refine r_call (ok_l23_number 1 (by decide) (by decide) [99, 109]) rfl rfl rfl rfl rfl rfl rfl ?_
  refine r_call (ok_l23_number 5 (by decide) (by decide) [109, 109]) rfl rfl rfl rfl rfl rfl rfl ?_
  repeat (first | refine r_op rfl rfl rfl rfl ?_ | refine r_skip rfl rfl rfl ?_ | refine .done ?_ | refine r_seq (T := TT) ?_ | refine r_region (T := TT) rfl ?_ | refine r_block (T := TT) ?_ | refine r_then (T := TT) rfl ?_ | refine r_else (T := TT) rfl ?_)
  refine r_call (c2) rfl rfl rfl rfl rfl rfl rfl ?_
  repeat (first | refine r_op rfl rfl rfl rfl ?_ | refine r_skip rfl rfl rfl ?_ | refine .done ?_ | refine r_seq (T := TT) ?_ | refine r_region (T := TT) rfl ?_ | refine r_block (T := TT) ?_ | refine r_then (T := TT) rfl ?_ | refine r_else (T := TT) rfl ?_)
  refine r_call (ok_l23_number 1 (by decide) (by decide) [99, 109]) rfl rfl rfl rfl rfl rfl rfl ?_
  refine r_call (ok_l23_number 5 (by decide) (by decide) []) rfl rfl rfl rfl rfl rfl rfl ?_
  repeat (first | refine r_op rfl rfl rfl rfl ?_ | refine r_skip rfl rfl rfl ?_ | refine .done ?_ | refine r_seq (T := TT) ?_ | refine r_region (T := TT) rfl ?_ | refine r_block (T := TT) ?_ | refine r_then (T := TT) rfl ?_ | refine r_else (T := TT) rfl ?_)
  refine r_call (c3) rfl rfl rfl rfl rfl rfl rfl ?_
  repeat (first | refine r_op rfl rfl rfl rfl ?_ | refine r_skip rfl rfl rfl ?_ | refine .done ?_ | refine r_seq (T := TT) ?_ | refine r_region (T := TT) rfl ?_ | refine r_block (T := TT) ?_ | refine r_then (T := TT) rfl ?_ | refine r_else (T := TT) rfl ?_)
  refine r_call (ok_r2_Frac 254 5 (by decide) (by decide) (by decide) (by decide) (q := Rat.divInt 254 5) rfl) rfl rfl rfl rfl rfl rfl rfl ?_
  repeat (first | refine r_op rfl rfl rfl rfl ?_ | refine r_skip rfl rfl rfl ?_ | refine .done ?_ | refine r_seq (T := TT) ?_ | refine r_region (T := TT) rfl ?_ | refine r_block (T := TT) ?_ | refine r_then (T := TT) rfl ?_ | refine r_else (T := TT) rfl ?_)
  refine r_call (same23 hs1 (by decide)) rfl rfl rfl rfl rfl rfl rfl ?_
  repeat (first | refine r_op rfl rfl rfl rfl ?_ | refine r_skip rfl rfl rfl ?_ | refine .done ?_ | refine r_seq (T := TT) ?_ | refine r_region (T := TT) rfl ?_ | refine r_block (T := TT) ?_ | refine r_then (T := TT) rfl ?_ | refine r_else (T := TT) rfl ?_)
  refine r_call (ok_r2_FromInt 15 (by decide) (by decide) (q := ((15 : Int) : Rat)) rfl) rfl rfl rfl rfl rfl rfl rfl ?_
  repeat (first | refine r_op rfl rfl rfl rfl ?_ | refine r_skip rfl rfl rfl ?_ | refine .done ?_ | refine r_seq (T := TT) ?_ | refine r_region (T := TT) rfl ?_ | refine r_block (T := TT) ?_ | refine r_then (T := TT) rfl ?_ | refine r_else (T := TT) rfl ?_)
  refine r_call (same23 (int_sz8 (n := 15) (by decide)) (by decide)) rfl rfl rfl rfl rfl rfl rfl ?_
  repeat (first | refine r_op rfl rfl rfl rfl ?_ | refine r_skip rfl rfl rfl ?_ | refine .done ?_ | refine r_seq (T := TT) ?_ | refine r_region (T := TT) rfl ?_ | refine r_block (T := TT) ?_ | refine r_then (T := TT) rfl ?_ | refine r_else (T := TT) rfl ?_)
  refine r_call (ok_r2_Frac 1 2 (by decide) (by decide) (by decide) (by decide) (q := ⟨1, 2, by decide, by decide⟩) (divInt_is (by decide) (by decide) (by decide) (by decide))) rfl rfl rfl rfl rfl rfl rfl ?_
  repeat (first | refine r_op rfl rfl rfl rfl ?_ | refine r_skip rfl rfl rfl ?_ | refine .done ?_ | refine r_seq (T := TT) ?_ | refine r_region (T := TT) rfl ?_ | refine r_block (T := TT) ?_ | refine r_then (T := TT) rfl ?_ | refine r_else (T := TT) rfl ?_)
  refine r_call (ok_u_Format (a := ⟨1, 2, by decide, by decide⟩) (p := -1) (szQ1 (by decide) (by decide)) (by decide) (by decide) t1) rfl rfl rfl rfl rfl rfl rfl ?_
  refine r_bin rfl rfl rfl rfl rfl rfl rfl (binV_eqT (a := [49, 47, 50, 32, 109, 109, 94, 45, 49]) (b := [49, 47, 50, 32, 109, 109, 94, 45, 49]) rfl) ?_
  repeat (first | refine r_op rfl rfl rfl rfl ?_ | refine r_skip rfl rfl rfl ?_ | refine .done ?_ | refine r_seq (T := TT) ?_ | refine r_region (T := TT) rfl ?_ | refine r_block (T := TT) ?_ | refine r_then (T := TT) rfl ?_ | refine r_else (T := TT) rfl ?_)
  exact r_fin (T := TT) rfl rfl
end Go.Proofs.YtmpadildchphgaaGreatDoor
namespace Go.Proofs.YtmpadildchphgaaGreatDoor
open Go.ChangeShapes Go.WideShapes Go.ChangeAt Go.RowKit Go.Joins
theorem open_struct {H : Type} {enc : TypeId × Value → H} {W : World} {P : Program} {L : List TypeId} (hL : plainB P L = true) {t : TypeId} (ht : t ∈ L) {fs : Array Field} (hu : P.underlying t = some (.struct fs)) {r : Reach} {b0 : Nat} {v : Value} {d : DataW H} {p : List MemPlace} (hv : Value.okWide P W r b0 t v) (h : DataW.Trod enc P W 0 (fun _ => true) true t v d p) :
    ∃ n cs, DV.M (fun _ => False) W (.agg cs) v ∧ Sh P n t cs := by
  obtain ⟨cs, rfl, _⟩ := okWide_struct hu hv
  obtain ⟨n, xs, h1, h2⟩ := open_sh hL ht h
  exact ⟨n, xs, dv_agg h1, h2⟩
end Go.Proofs.YtmpadildchphgaaGreatDoor
