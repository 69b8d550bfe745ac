/- The rational laws' helpers: arguments, awake, few, roots. The rational laws' examples, and their guard on lists. -/
import Derived.Test.YtecjnnhkbmkemaaGreatDoorPQb
import Derived.Test.YtecjnnhkbmkemaaGreatDoorPTied
namespace Go.Proofs.YtecjnnhkbmkemaaGreatDoor
open Go.ChangeShapes Go.WideShapes Go.ChangeAt Go.RowKit Go.Joins
theorem ok_q_Sqrt_t {a q : Rat} {r t : Nat} (h1 : (digs a.num.natAbs).length ≤ 2147483) (h2 : (digs (a.den : Int).natAbs).length ≤ 2147483) (hr : (r : Int) * r = a.num) (ht : t * t = a.den) (hq : q.num = r ∧ q.den = t) : CallOK Tryz.prog 23 [dQ a] (.tup [dQ q, dB true]) := by
  have hn : a.num.natAbs = r * r := by rw [← hr, Int.natAbs_mul, Int.natAbs_natCast]
  have e1 : r * r ≤ a.num.natAbs ∧ a.num.natAbs < (r + 1) * (r + 1) := by rw [hn]; exact ⟨Nat.le_refl _, Nat.mul_lt_mul'' (Nat.lt_succ_self r) (Nat.lt_succ_self r)⟩
  have e2 : t * t ≤ (a.den : Int).natAbs ∧ (a.den : Int).natAbs < (t + 1) * (t + 1) := by rw [Int.natAbs_natCast, ← ht]; exact ⟨Nat.le_refl _, Nat.mul_lt_mul'' (Nat.lt_succ_self t) (Nat.lt_succ_self t)⟩
  have h0 : 0 ≤ a.num := by rw [← hr]; exact Int.mul_nonneg (by omega) (by omega)
  rw [dQ_of hq.1 (d := t) (by rw [hq.2])]
  refine callOK_of TT_ok mixT Tryz.func23 rfl rfl (Nat.le_of_ble_eq_true rfl) ?_
  repeat (first | refine r_op rfl rfl rfl rfl ?_ | refine r_skip rfl rfl rfl ?_ | refine .done ?_ | refine r_seq (T := TT) ?_ | refine r_region (T := TT) rfl ?_ | refine r_block (T := TT) ?_ | refine r_then (T := TT) rfl ?_ | refine r_else (T := TT) rfl ?_)
  refine r_call (ok_q_root h0 h1 e1.1 e1.2 (decide_eq_true hr)) rfl rfl rfl rfl rfl rfl rfl ?_
  repeat (first | refine r_op rfl rfl rfl rfl ?_ | refine r_skip rfl rfl rfl ?_ | refine .done ?_ | refine r_seq (T := TT) ?_ | refine r_region (T := TT) rfl ?_ | refine r_block (T := TT) ?_ | refine r_then (T := TT) rfl ?_ | refine r_else (T := TT) rfl ?_)
  refine r_call (ok_q_root (by omega) h2 e2.1 e2.2 (decide_eq_true (show (t : Int) * t = (a.den : Int) by rw [← ht]; rfl))) rfl rfl rfl rfl rfl rfl rfl ?_
  repeat (first | refine r_op rfl rfl rfl rfl ?_ | refine r_skip rfl rfl rfl ?_ | refine .done ?_ | refine r_seq (T := TT) ?_ | refine r_region (T := TT) rfl ?_ | refine r_block (T := TT) ?_ | refine r_then (T := TT) rfl ?_ | refine r_else (T := TT) rfl ?_)
  exact r_fin (T := TT) rfl rfl
theorem ok_q_Sqrt_f {a : Rat} {r t : Nat} (h1 : (digs a.num.natAbs).length ≤ 2147483) (h2 : (digs (a.den : Int).natAbs).length ≤ 2147483) (h0 : 0 ≤ a.num) (e1 : r * r ≤ a.num.natAbs ∧ a.num.natAbs < (r + 1) * (r + 1)) (e2 : t * t ≤ (a.den : Int).natAbs ∧ (a.den : Int).natAbs < (t + 1) * (t + 1)) (h : ¬ ((r : Int) * r = a.num ∧ t * t = a.den)) : CallOK Tryz.prog 23 [dQ a] (.tup [dQ0, dB false]) := by
  by_cases hr : (r : Int) * r = a.num
  · have ht : ¬ (t : Int) * t = (a.den : Int) := fun e => h ⟨hr, by exact_mod_cast e⟩
    refine callOK_of TT_ok mixT Tryz.func23 rfl rfl (Nat.le_of_ble_eq_true rfl) ?_
    repeat (first | refine r_op rfl rfl rfl rfl ?_ | refine r_skip rfl rfl rfl ?_ | refine .done ?_ | refine r_seq (T := TT) ?_ | refine r_region (T := TT) rfl ?_ | refine r_block (T := TT) ?_ | refine r_then (T := TT) rfl ?_ | refine r_else (T := TT) rfl ?_)
    refine r_call (ok_q_root h0 h1 e1.1 e1.2 (decide_eq_true hr)) rfl rfl rfl rfl rfl rfl rfl ?_
    repeat (first | refine r_op rfl rfl rfl rfl ?_ | refine r_skip rfl rfl rfl ?_ | refine .done ?_ | refine r_seq (T := TT) ?_ | refine r_region (T := TT) rfl ?_ | refine r_block (T := TT) ?_ | refine r_then (T := TT) rfl ?_ | refine r_else (T := TT) rfl ?_)
    refine r_call (ok_q_root (by omega) h2 e2.1 e2.2 (decide_eq_false ht)) rfl rfl rfl rfl rfl rfl rfl ?_
    repeat (first | refine r_op rfl rfl rfl rfl ?_ | refine r_skip rfl rfl rfl ?_ | refine .done ?_ | refine r_seq (T := TT) ?_ | refine r_region (T := TT) rfl ?_ | refine r_block (T := TT) ?_ | refine r_then (T := TT) rfl ?_ | refine r_else (T := TT) rfl ?_)
    exact r_fin (T := TT) rfl rfl
  · obtain ⟨b, hb⟩ : ∃ b, decide ((t : Int) * t = (a.den : Int)) = b := ⟨_, rfl⟩
    refine callOK_of TT_ok mixT Tryz.func23 rfl rfl (Nat.le_of_ble_eq_true rfl) ?_
    repeat (first | refine r_op rfl rfl rfl rfl ?_ | refine r_skip rfl rfl rfl ?_ | refine .done ?_ | refine r_seq (T := TT) ?_ | refine r_region (T := TT) rfl ?_ | refine r_block (T := TT) ?_ | refine r_then (T := TT) rfl ?_ | refine r_else (T := TT) rfl ?_)
    refine r_call (ok_q_root h0 h1 e1.1 e1.2 (decide_eq_false hr)) rfl rfl rfl rfl rfl rfl rfl ?_
    repeat (first | refine r_op rfl rfl rfl rfl ?_ | refine r_skip rfl rfl rfl ?_ | refine .done ?_ | refine r_seq (T := TT) ?_ | refine r_region (T := TT) rfl ?_ | refine r_block (T := TT) ?_ | refine r_then (T := TT) rfl ?_ | refine r_else (T := TT) rfl ?_)
    refine r_call (ok_q_root (by omega) h2 e2.1 e2.2 hb) rfl rfl rfl rfl rfl rfl rfl ?_
    repeat (first | refine r_op rfl rfl rfl rfl ?_ | refine r_skip rfl rfl rfl ?_ | refine .done ?_ | refine r_seq (T := TT) ?_ | refine r_region (T := TT) rfl ?_ | refine r_block (T := TT) ?_ | refine r_then (T := TT) rfl ?_ | refine r_else (T := TT) rfl ?_)
    exact r_fin (T := TT) rfl rfl
theorem divInt_is {n d a : Int} {b : Nat} (hd : d ≠ 0) (hb : b ≠ 0) (hc : Nat.Coprime a.natAbs b) (h : n * b = a * d) : Rat.divInt n d = ⟨a, b, hb, hc⟩ := by
  have h1 := Rat.num_divInt_den (⟨a, b, hb, hc⟩ : Rat)
  rw [← h1, Rat.divInt_eq_divInt_iff hd (by show (b : Int) ≠ 0; omega)]
  exact h
theorem dec_lt10 {n : Nat} (h0 : n ≠ 0) (h : n < 10) : dec n = [dg n] := by rw [dec_pos h0, show n / 10 = 0 by omega, dec_zero, show n % 10 = n by omega]; rfl
theorem dec_15 : dec 15 = [49, 53] := by rw [dec_pos (by decide), dec_lt10 (by decide) (by decide)]; rfl
theorem okT_of {b : Bool} {c : UInt8} {r : List UInt8} (h : (c :: r).all isDb = true) (hc : c ≠ 48) : okT b (c :: r) := ⟨by simp, fun x hx => isDb_iff.1 (List.all_eq_true.1 h x hx), .inl fun x y e => by cases e; exact hc⟩
theorem parse_1 : parseQ [45, 49, 46, 50, 53, 48] = some ⟨-5, 4, by decide, by decide⟩ := by
  have h : posQ [49, 46, 50, 53, 48] = some (Rat.divInt ((num [49] * 10 ^ [50, 53, 48].length + num [50, 53, 48] : Nat) : Int) ((10 ^ [50, 53, 48].length : Nat) : Int)) := by
    have := pos_dot (a := [49]) (b := [50, 53, 48]) (by decide) (by decide)
    rw [if_pos ⟨okT_of (by decide) (by decide), by simp, by decide⟩] at this
    exact this
  have e : Rat.divInt ((num [49] * 10 ^ [50, 53, 48].length + num [50, 53, 48] : Nat) : Int) ((10 ^ [50, 53, 48].length : Nat) : Int) = ⟨5, 4, by decide, by decide⟩ := divInt_is (by decide) (by decide) (by decide) (by decide)
  rw [e] at h
  unfold parseQ
  rw [if_pos (by decide)]
  show (match posQ [49, 46, 50, 53, 48] with | none => none | some q => if true = true then (if q = 0 then none else some (-q)) else some q) = _
  rw [h]
  rfl
theorem parse_2 : parseQ [50, 47, 52] = none := by
  have h : posQ [50, 47, 52] = none := by
    have := pos_slash (a := [50]) (b := [52]) (by decide)
    rw [if_neg (fun e => absurd e.2.2.2.2 (by decide))] at this
    exact this
  unfold parseQ
  rw [if_pos (by decide)]
  show (match posQ [50, 47, 52] with | none => none | some q => if false = true then (if q = 0 then none else some (-q)) else some q) = _
  rw [h]
theorem parse_3 : parseQ [45, 48] = none := by
  have h : posQ [48] = some 0 := by
    have := pos_none (a := [48]) (by decide) (by decide)
    rw [if_pos ⟨by simp, by decide, .inr ⟨rfl, rfl⟩⟩] at this
    exact this
  unfold parseQ
  rw [if_pos (by decide)]
  show (match posQ [48] with | none => none | some q => if true = true then (if q = 0 then none else some (-q)) else some q) = _
  rw [h]
  rfl
end Go.Proofs.YtecjnnhkbmkemaaGreatDoor
namespace Go.Proofs.YtecjnnhkbmkemaaGreatDoor
open Go.ChangeShapes Go.WideShapes Go.ChangeAt Go.RowKit Go.Joins
theorem szQ1 {q : Rat} (h1 : q.num.natAbs < 4294967296) (h2 : (q.den : Int).natAbs < 4294967296) : SzQ 1 q := ⟨.small h1, .small h2⟩
theorem ok_l2_awake : CallOK Tryz.prog 12 [] (.one (dB true)) := by
  have e1 : (⟨1, 6, by decide, by decide⟩ + ⟨1, 10, by decide, by decide⟩ : Rat) = ⟨4, 15, by decide, by decide⟩ := by rw [← add_divInt]; exact divInt_is (by decide) (by decide) (by decide) (by decide)
  have e2 : (⟨-7, 2, by decide, by decide⟩ : Rat).floor = -4 := by rw [Rat.floor_def]; rfl
  have t1 : fmtQ ⟨4, 15, by decide, by decide⟩ = [52, 47, 49, 53] := by
    unfold fmtQ fmt
    simp [dec_lt10, dec_15]
    decide
  have t2 : fmtQ ⟨3, 2, by decide, by decide⟩ = [51, 47, 50] := by
    unfold fmtQ fmt
    simp [dec_lt10]
    decide
  have t3 : fmtQ ⟨-5, 4, by decide, by decide⟩ = [45, 53, 47, 52] := by
    unfold fmtQ fmt
    simp [dec_lt10]
    decide
  refine callOK_of TT_ok mixT Tryz.func12 rfl rfl (Nat.le_of_ble_eq_true rfl) ?_
  repeat (first | refine r_op rfl rfl rfl rfl ?_ | refine r_skip rfl rfl rfl ?_ | refine .done ?_ | refine r_seq (T := TT) ?_ | refine r_region (T := TT) rfl ?_ | refine r_block (T := TT) ?_ | refine r_then (T := TT) rfl ?_ | refine r_else (T := TT) rfl ?_)
  refine r_call (ok_q_Frac 1 6 (by decide) (by decide) (by decide) (by decide) (q := ⟨1, 6, by decide, by decide⟩) (divInt_is (by decide) (by decide) (by decide) (by decide))) rfl rfl rfl rfl rfl rfl rfl ?_
  repeat (first | refine r_op rfl rfl rfl rfl ?_ | refine r_skip rfl rfl rfl ?_ | refine .done ?_ | refine r_seq (T := TT) ?_ | refine r_region (T := TT) rfl ?_ | refine r_block (T := TT) ?_ | refine r_then (T := TT) rfl ?_ | refine r_else (T := TT) rfl ?_)
  refine r_call (ok_q_Frac 1 10 (by decide) (by decide) (by decide) (by decide) (q := ⟨1, 10, by decide, by decide⟩) (divInt_is (by decide) (by decide) (by decide) (by decide))) rfl rfl rfl rfl rfl rfl rfl ?_
  repeat (first | refine r_op rfl rfl rfl rfl ?_ | refine r_skip rfl rfl rfl ?_ | refine .done ?_ | refine r_seq (T := TT) ?_ | refine r_region (T := TT) rfl ?_ | refine r_block (T := TT) ?_ | refine r_then (T := TT) rfl ?_ | refine r_else (T := TT) rfl ?_)
  refine r_call (ok_q_Add (szQ1 (by decide) (by decide)) (szQ1 (by decide) (by decide)) (by decide) e1) rfl rfl rfl rfl rfl rfl rfl ?_
  repeat (first | refine r_op rfl rfl rfl rfl ?_ | refine r_skip rfl rfl rfl ?_ | refine .done ?_ | refine r_seq (T := TT) ?_ | refine r_region (T := TT) rfl ?_ | refine r_block (T := TT) ?_ | refine r_then (T := TT) rfl ?_ | refine r_else (T := TT) rfl ?_)
  refine r_call (ok_q_Frac 9 4 (by decide) (by decide) (by decide) (by decide) (q := ⟨9, 4, by decide, by decide⟩) (divInt_is (by decide) (by decide) (by decide) (by decide))) rfl rfl rfl rfl rfl rfl rfl ?_
  repeat (first | refine r_op rfl rfl rfl rfl ?_ | refine r_skip rfl rfl rfl ?_ | refine .done ?_ | refine r_seq (T := TT) ?_ | refine r_region (T := TT) rfl ?_ | refine r_block (T := TT) ?_ | refine r_then (T := TT) rfl ?_ | refine r_else (T := TT) rfl ?_)
  refine r_call (ok_q_Sqrt_t (a := ⟨9, 4, by decide, by decide⟩) (q := ⟨3, 2, by decide, by decide⟩) (r := 3) (t := 2) (Nat.le_trans (szQ1 (q := ⟨9, 4, by decide, by decide⟩) (by decide) (by decide)).1.digs (by decide)) (Nat.le_trans (szQ1 (q := ⟨9, 4, by decide, by decide⟩) (by decide) (by decide)).2.digs (by decide)) (by decide) (by decide) ⟨rfl, rfl⟩) rfl rfl rfl rfl rfl rfl rfl ?_
  repeat (first | refine r_op rfl rfl rfl rfl ?_ | refine r_skip rfl rfl rfl ?_ | refine .done ?_ | refine r_seq (T := TT) ?_ | refine r_region (T := TT) rfl ?_ | refine r_block (T := TT) ?_ | refine r_then (T := TT) rfl ?_ | refine r_else (T := TT) rfl ?_)
  refine r_call (ok_q_Frac 1 2 (by decide) (by decide) (by decide) (by decide) (q := ⟨1, 2, by decide, by decide⟩) (divInt_is (by decide) (by decide) (by decide) (by decide))) rfl rfl rfl rfl rfl rfl rfl ?_
  repeat (first | refine r_op rfl rfl rfl rfl ?_ | refine r_skip rfl rfl rfl ?_ | refine .done ?_ | refine r_seq (T := TT) ?_ | refine r_region (T := TT) rfl ?_ | refine r_block (T := TT) ?_ | refine r_then (T := TT) rfl ?_ | refine r_else (T := TT) rfl ?_)
  refine r_call (ok_q_Sqrt_f (a := ⟨1, 2, by decide, by decide⟩) (r := 1) (t := 1) (Nat.le_trans (szQ1 (q := ⟨1, 2, by decide, by decide⟩) (by decide) (by decide)).1.digs (by decide)) (Nat.le_trans (szQ1 (q := ⟨1, 2, by decide, by decide⟩) (by decide) (by decide)).2.digs (by decide)) (by decide) (by decide) (by decide) (by decide)) rfl rfl rfl rfl rfl rfl rfl ?_
  repeat (first | refine r_op rfl rfl rfl rfl ?_ | refine r_skip rfl rfl rfl ?_ | refine .done ?_ | refine r_seq (T := TT) ?_ | refine r_region (T := TT) rfl ?_ | refine r_block (T := TT) ?_ | refine r_then (T := TT) rfl ?_ | refine r_else (T := TT) rfl ?_)
  refine r_call (ok_q_Parse parse_1) rfl rfl rfl rfl rfl rfl rfl ?_
  repeat (first | refine r_op rfl rfl rfl rfl ?_ | refine r_skip rfl rfl rfl ?_ | refine .done ?_ | refine r_seq (T := TT) ?_ | refine r_region (T := TT) rfl ?_ | refine r_block (T := TT) ?_ | refine r_then (T := TT) rfl ?_ | refine r_else (T := TT) rfl ?_)
  refine r_call (ok_q_ParseN parse_2) rfl rfl rfl rfl rfl rfl rfl ?_
  repeat (first | refine r_op rfl rfl rfl rfl ?_ | refine r_skip rfl rfl rfl ?_ | refine .done ?_ | refine r_seq (T := TT) ?_ | refine r_region (T := TT) rfl ?_ | refine r_block (T := TT) ?_ | refine r_then (T := TT) rfl ?_ | refine r_else (T := TT) rfl ?_)
  refine r_call (ok_q_ParseN parse_3) rfl rfl rfl rfl rfl rfl rfl ?_
  repeat (first | refine r_op rfl rfl rfl rfl ?_ | refine r_skip rfl rfl rfl ?_ | refine .done ?_ | refine r_seq (T := TT) ?_ | refine r_region (T := TT) rfl ?_ | refine r_block (T := TT) ?_ | refine r_then (T := TT) rfl ?_ | refine r_else (T := TT) rfl ?_)
  refine r_call (ok_q_Frac (-7) 2 (by decide) (by decide) (by decide) (by decide) (q := ⟨-7, 2, by decide, by decide⟩) (divInt_is (by decide) (by decide) (by decide) (by decide))) rfl rfl rfl rfl rfl rfl rfl ?_
  repeat (first | refine r_op rfl rfl rfl rfl ?_ | refine r_skip rfl rfl rfl ?_ | refine .done ?_ | refine r_seq (T := TT) ?_ | refine r_region (T := TT) rfl ?_ | refine r_block (T := TT) ?_ | refine r_then (T := TT) rfl ?_ | refine r_else (T := TT) rfl ?_)
  refine r_call (ok_q_Floor (j := 1) (szQ1 (by decide) (by decide)) (by decide) e2) rfl rfl rfl rfl rfl rfl rfl ?_
  repeat (first | refine r_op rfl rfl rfl rfl ?_ | refine r_skip rfl rfl rfl ?_ | refine .done ?_ | refine r_seq (T := TT) ?_ | refine r_region (T := TT) rfl ?_ | refine r_block (T := TT) ?_ | refine r_then (T := TT) rfl ?_ | refine r_else (T := TT) rfl ?_)
  refine r_call (okz_i_Int64 (a := -4) (z := -4) (b := true) (.small (by decide)) rfl) rfl rfl rfl rfl rfl rfl rfl ?_
  repeat (first | refine r_op rfl rfl rfl rfl ?_ | refine r_skip rfl rfl rfl ?_ | refine .done ?_ | refine r_seq (T := TT) ?_ | refine r_region (T := TT) rfl ?_ | refine r_block (T := TT) ?_ | refine r_then (T := TT) rfl ?_ | refine r_else (T := TT) rfl ?_)
  refine r_call (ok_q_Format (k := 1) (szQ1 (by decide) (by decide)) (by decide) t1) rfl rfl rfl rfl rfl rfl rfl ?_
  refine r_bin rfl rfl rfl rfl rfl rfl rfl (binV_eqT (a := [52, 47, 49, 53]) (b := [52, 47, 49, 53]) rfl) ?_
  repeat (first | refine r_op rfl rfl rfl rfl ?_ | refine r_skip rfl rfl rfl ?_ | refine .done ?_ | refine r_seq (T := TT) ?_ | refine r_region (T := TT) rfl ?_ | refine r_block (T := TT) ?_ | refine r_then (T := TT) rfl ?_ | refine r_else (T := TT) rfl ?_)
  refine r_call (ok_q_Format (k := 1) (szQ1 (by decide) (by decide)) (by decide) t2) rfl rfl rfl rfl rfl rfl rfl ?_
  refine r_bin rfl rfl rfl rfl rfl rfl rfl (binV_eqT (a := [51, 47, 50]) (b := [51, 47, 50]) rfl) ?_
  repeat (first | refine r_op rfl rfl rfl rfl ?_ | refine r_skip rfl rfl rfl ?_ | refine .done ?_ | refine r_seq (T := TT) ?_ | refine r_region (T := TT) rfl ?_ | refine r_block (T := TT) ?_ | refine r_then (T := TT) rfl ?_ | refine r_else (T := TT) rfl ?_)
  refine r_call (ok_q_Format (k := 1) (szQ1 (by decide) (by decide)) (by decide) t3) rfl rfl rfl rfl rfl rfl rfl ?_
  refine r_bin rfl rfl rfl rfl rfl rfl rfl (binV_eqT (a := [45, 53, 47, 52]) (b := [45, 53, 47, 52]) rfl) ?_
  repeat (first | refine r_op rfl rfl rfl rfl ?_ | refine r_skip rfl rfl rfl ?_ | refine .done ?_ | refine r_seq (T := TT) ?_ | refine r_region (T := TT) rfl ?_ | refine r_block (T := TT) ?_ | refine r_then (T := TT) rfl ?_ | refine r_else (T := TT) rfl ?_)
  exact r_fin (T := TT) rfl rfl
theorem same_t {k : Nat} {a b : Rat} (h : SzQ k a) (hk : k ≤ 2147483648) (e : a = b) : CallOK Tryz.prog 25 [dQ a, dQ b] (.one (dB true)) := ok_r2_Same h hk (decide_eq_true e)
end Go.Proofs.YtecjnnhkbmkemaaGreatDoor
