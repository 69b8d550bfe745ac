/- The rational laws' helpers: arguments, awake, few, roots. The rational laws' examples, and their guard on lists. -/
import Derived.Test.YtecjnnhkbmkemaaGreatDoorQb
import Derived.Test.YtecjnnhkbmkemaaGreatDoorTied
namespace Go.Proofs.YtecjnnhkbmkemaaGreatDoor
open Go.ChangeShapes Go.WideShapes Go.ChangeAt Go.RowKit Go.Joins

set_option maxRecDepth 100000 in
/-- the cells of an integer that came in -/
theorem int_cells {H : Type} {enc : TypeId × Value → H} {W : World} {c0 c1 : Value} {n : Nat} {x : DataW H × List MemPlace} (h : DataW.trod enc Tryz.prog W 0 (fun _ => true) true n 24 [c0, c1] = some x) :
    ∃ na xs A k c, c0 = .bool na ∧ c1 = .slice A k c ∧ Wrd W A k c xs := by
  obtain ⟨y0, y1, m, hx, _, hy0, hy1⟩ := trod_struct2 Tryz.underlying24 h
  have hy0 : DataW.trod enc Tryz.prog W 0 (fun _ => true) true m 4 (([c0, c1].drop 0).take (Tryz.prog.cellsOf 4)) = some y0 := hy0
  have hy1 : DataW.trod enc Tryz.prog W 0 (fun _ => true) true m 22 (([c0, c1].drop 1).take (Tryz.prog.cellsOf 22)) = some y1 := hy1
  rw [show Tryz.prog.cellsOf 4 = 1 by kernel_rfl] at hy0
  rw [show Tryz.prog.cellsOf 22 = 1 by kernel_rfl] at hy1
  have hy0 : DataW.trod enc Tryz.prog W 0 (fun _ => true) true m 4 [c0] = some y0 := hy0
  have hy1 : DataW.trod enc Tryz.prog W 0 (fun _ => true) true m 22 [c1] = some y1 := hy1
  obtain ⟨na, e0, -⟩ := DataW.trod_bool Tryz.underlying4 hy0
  rw [List.cons.injEq] at e0
  obtain ⟨rfl, -⟩ := e0
  rcases open_ints Tryz.underlying22 Tryz.underlying61 (by kernel_rfl) hy1 with ⟨e1, -⟩ | ⟨a, len, cap, zs, e1, -, hl, hm, hz, -, hcell, hwf⟩
  · have e1 : [c1] = [Value.slice none 0 0] := e1
    rw [List.cons.injEq] at e1
    obtain ⟨rfl, -⟩ := e1
    exact ⟨na, [], _, _, _, rfl, rfl, Wrd.nil W⟩
  · have e1 : [c1] = [Value.slice (some a) len cap] := e1
    rw [List.cons.injEq] at e1
    obtain ⟨rfl, -⟩ := e1
    rw [if_pos rfl] at hz
    have hb : ∀ i, i < zs.length → 0 ≤ zs.getD i 0 ∧ zs.getD i 0 ≤ 4294967295 := by
      intro i hi
      have := hwf (zs.getD i 0) (by rw [List.getD_eq_getElem?_getD, List.getElem?_eq_getElem hi]; simp)
      exact bounds_u32 this
    refine ⟨na, (zs.take len).map Int.toNat, some a, len, cap, rfl, rfl, ⟨by simp; omega, hl, by unfold maxLen at hm; omega, ?_, ?_, fun h => by cases h⟩⟩
    · intro x hx
      rw [List.mem_map] at hx
      obtain ⟨n, hn, rfl⟩ := hx
      have := bounds_u32 (hwf n (List.mem_of_mem_take hn))
      omega
    · by_cases h0 : len = 0
      · subst h0; exact .inl (by simp)
      · obtain ⟨b, off, rfl, hc⟩ := ints_at hcell (by omega)
        refine .inr ⟨b, off, rfl, fun i v hv => ?_⟩
        rw [List.getElem?_map, List.getElem?_map, List.getElem?_take] at hv
        split at hv
        · rename_i hi
          have hi' : i < zs.length := by omega
          rw [List.getElem?_eq_getElem hi'] at hv
          simp only [Option.map_some, Option.some.injEq] at hv
          subst hv
          have h1 := hc i hi'
          have h2 := hb i hi'
          rw [List.getD_eq_getElem?_getD, List.getElem?_eq_getElem hi', Option.getD_some] at h1 h2
          rw [h1]
          simp only [W32, Option.some.injEq, Value.int.injEq, true_and]
          omega
        · cases hv
def RatR (w : World) (v : Value) (na : Bool) (xs : List Nat) (nb : Bool) (ys : List Nat) : Prop := ∃ A n c B m d, v = .agg #[.bool na, .slice A n c, .bool nb, .slice B m d] ∧ Wrd w A n c xs ∧ Wrd w B m d ys
theorem ratR_wd {w : World} {v : Value} {na nb : Bool} {xs ys : List Nat} (h : RatR w v na xs nb ys) : Wd xs ∧ Wd ys := by
  obtain ⟨_, _, _, _, _, _, _, h1, h2⟩ := h
  exact ⟨h1.wd, h2.wd⟩
theorem dI2_of {S : Nat → Prop} {w : World} (h : NoWord S w) {v : Value} {na nb : Bool} {xs ys : List Nat} (hv : RatR w v na xs nb ys) : DV.M S w (dI2 na xs nb ys) v := by
  obtain ⟨A, n, c, B, m, d, rfl, h1, h2⟩ := hv
  exact ⟨[.bool na, .slice A n c, .bool nb, .slice B m d], rfl, CM.cons (.val rfl) (CM.cons (aW_of h h1) (CM.cons (.val rfl) (CM.cons (aW_of h h2) (CM.nil _ _))))⟩
set_option maxRecDepth 100000 in
theorem open_rat {H : Type} {enc : TypeId × Value → H} {W : World} {r : Reach} {b0 : Nat} {v : Value} {d : DataW H} {p : List MemPlace} (hv : Value.okWide Tryz.prog W r b0 26 v) (h : DataW.Trod enc Tryz.prog W 0 (fun _ => true) true 26 v d p) :
    ∃ na xs nb ys, RatR W v na xs nb ys := by
  obtain ⟨cs, rfl, hsz⟩ := okWide_struct Tryz.underlying26 hv
  have h4 : Tryz.prog.cellsOf 26 = 4 := by kernel_rfl
  have hz : Tryz.prog.cellsOf 24 = 2 := by kernel_rfl
  rw [h4] at hsz
  obtain ⟨l⟩ := cs
  obtain ⟨fuel, hf⟩ := h
  match l, hsz with
  | [c0, c1, c2, c3], _ =>
    obtain ⟨y0, y1, m, hx, _, hy0, hy1⟩ := trod_struct2 Tryz.underlying26 hf
    have hy0 : DataW.trod enc Tryz.prog W 0 (fun _ => true) true m 24 (([c0, c1, c2, c3].drop 0).take (Tryz.prog.cellsOf 24)) = some y0 := hy0
    have hy1 : DataW.trod enc Tryz.prog W 0 (fun _ => true) true m 24 (([c0, c1, c2, c3].drop 2).take (Tryz.prog.cellsOf 24)) = some y1 := hy1
    rw [hz] at hy0 hy1
    have hy0 : DataW.trod enc Tryz.prog W 0 (fun _ => true) true m 24 [c0, c1] = some y0 := hy0
    have hy1 : DataW.trod enc Tryz.prog W 0 (fun _ => true) true m 24 [c2, c3] = some y1 := hy1
    obtain ⟨na, xs, A, k, c, rfl, rfl, h1⟩ := int_cells hy0
    obtain ⟨nb, ys, B, j, d, rfl, rfl, h2⟩ := int_cells hy1
    exact ⟨na, xs, nb, ys, A, k, c, B, j, d, rfl, h1, h2⟩

/-! roots -/
theorem ok_q_Sqrt_t {a q : Rat} {r t : Nat} (h1 : (digs a.num.natAbs).length ≤ 2147483) (h2 : (digs (a.den : Int).natAbs).length ≤ 2147483) (hr : (r : Int) * r = a.num) (ht : t * t = a.den) (hq : q.num = r ∧ q.den = t) : CallOK Tryz.prog 23 [dQ a] (.tup [dQ q, dB true]) := by
  have hn : a.num.natAbs = r * r := by rw [← hr, Int.natAbs_mul, Int.natAbs_natCast]
  have e1 : r * r ≤ a.num.natAbs ∧ a.num.natAbs < (r + 1) * (r + 1) := by rw [hn]; exact ⟨Nat.le_refl _, Nat.mul_lt_mul'' (Nat.lt_succ_self r) (Nat.lt_succ_self r)⟩
  have e2 : t * t ≤ (a.den : Int).natAbs ∧ (a.den : Int).natAbs < (t + 1) * (t + 1) := by rw [Int.natAbs_natCast, ← ht]; exact ⟨Nat.le_refl _, Nat.mul_lt_mul'' (Nat.lt_succ_self t) (Nat.lt_succ_self t)⟩
  have h0 : 0 ≤ a.num := by rw [← hr]; exact Int.mul_nonneg (by omega) (by omega)
  rw [dQ_of hq.1 (d := t) (by rw [hq.2])]
  refine callOK_of TT_ok mixT Tryz.func23 rfl rfl (Nat.le_of_ble_eq_true rfl) ?_
  repeat (first | refine r_op rfl rfl rfl rfl ?_ | refine r_skip rfl rfl rfl ?_ | refine .done ?_ | refine r_seq (T := TT) ?_ | refine r_region (T := TT) rfl ?_ | refine r_block (T := TT) ?_ | refine r_then (T := TT) rfl ?_ | refine r_else (T := TT) rfl ?_)
  refine r_call (ok_q_root h0 h1 e1.1 e1.2 (decide_eq_true hr)) rfl rfl rfl rfl rfl rfl rfl ?_
  repeat (first | refine r_op rfl rfl rfl rfl ?_ | refine r_skip rfl rfl rfl ?_ | refine .done ?_ | refine r_seq (T := TT) ?_ | refine r_region (T := TT) rfl ?_ | refine r_block (T := TT) ?_ | refine r_then (T := TT) rfl ?_ | refine r_else (T := TT) rfl ?_)
  refine r_call (ok_q_root (by omega) h2 e2.1 e2.2 (decide_eq_true (show (t : Int) * t = (a.den : Int) by rw [← ht]; rfl))) rfl rfl rfl rfl rfl rfl rfl ?_
  repeat (first | refine r_op rfl rfl rfl rfl ?_ | refine r_skip rfl rfl rfl ?_ | refine .done ?_ | refine r_seq (T := TT) ?_ | refine r_region (T := TT) rfl ?_ | refine r_block (T := TT) ?_ | refine r_then (T := TT) rfl ?_ | refine r_else (T := TT) rfl ?_)
  exact r_fin (T := TT) rfl rfl
theorem ok_q_Sqrt_f {a : Rat} {r t : Nat} (h1 : (digs a.num.natAbs).length ≤ 2147483) (h2 : (digs (a.den : Int).natAbs).length ≤ 2147483) (h0 : 0 ≤ a.num) (e1 : r * r ≤ a.num.natAbs ∧ a.num.natAbs < (r + 1) * (r + 1)) (e2 : t * t ≤ (a.den : Int).natAbs ∧ (a.den : Int).natAbs < (t + 1) * (t + 1)) (h : ¬ ((r : Int) * r = a.num ∧ t * t = a.den)) : CallOK Tryz.prog 23 [dQ a] (.tup [dQ0, dB false]) := by
  by_cases hr : (r : Int) * r = a.num
  · have ht : ¬ (t : Int) * t = (a.den : Int) := fun e => h ⟨hr, by exact_mod_cast e⟩
    refine callOK_of TT_ok mixT Tryz.func23 rfl rfl (Nat.le_of_ble_eq_true rfl) ?_
    repeat (first | refine r_op rfl rfl rfl rfl ?_ | refine r_skip rfl rfl rfl ?_ | refine .done ?_ | refine r_seq (T := TT) ?_ | refine r_region (T := TT) rfl ?_ | refine r_block (T := TT) ?_ | refine r_then (T := TT) rfl ?_ | refine r_else (T := TT) rfl ?_)
    refine r_call (ok_q_root h0 h1 e1.1 e1.2 (decide_eq_true hr)) rfl rfl rfl rfl rfl rfl rfl ?_
    repeat (first | refine r_op rfl rfl rfl rfl ?_ | refine r_skip rfl rfl rfl ?_ | refine .done ?_ | refine r_seq (T := TT) ?_ | refine r_region (T := TT) rfl ?_ | refine r_block (T := TT) ?_ | refine r_then (T := TT) rfl ?_ | refine r_else (T := TT) rfl ?_)
    refine r_call (ok_q_root (by omega) h2 e2.1 e2.2 (decide_eq_false ht)) rfl rfl rfl rfl rfl rfl rfl ?_
    repeat (first | refine r_op rfl rfl rfl rfl ?_ | refine r_skip rfl rfl rfl ?_ | refine .done ?_ | refine r_seq (T := TT) ?_ | refine r_region (T := TT) rfl ?_ | refine r_block (T := TT) ?_ | refine r_then (T := TT) rfl ?_ | refine r_else (T := TT) rfl ?_)
    exact r_fin (T := TT) rfl rfl
  · obtain ⟨b, hb⟩ : ∃ b, decide ((t : Int) * t = (a.den : Int)) = b := ⟨_, rfl⟩
    refine callOK_of TT_ok mixT Tryz.func23 rfl rfl (Nat.le_of_ble_eq_true rfl) ?_
    repeat (first | refine r_op rfl rfl rfl rfl ?_ | refine r_skip rfl rfl rfl ?_ | refine .done ?_ | refine r_seq (T := TT) ?_ | refine r_region (T := TT) rfl ?_ | refine r_block (T := TT) ?_ | refine r_then (T := TT) rfl ?_ | refine r_else (T := TT) rfl ?_)
    refine r_call (ok_q_root h0 h1 e1.1 e1.2 (decide_eq_false hr)) rfl rfl rfl rfl rfl rfl rfl ?_
    repeat (first | refine r_op rfl rfl rfl rfl ?_ | refine r_skip rfl rfl rfl ?_ | refine .done ?_ | refine r_seq (T := TT) ?_ | refine r_region (T := TT) rfl ?_ | refine r_block (T := TT) ?_ | refine r_then (T := TT) rfl ?_ | refine r_else (T := TT) rfl ?_)
    refine r_call (ok_q_root (by omega) h2 e2.1 e2.2 hb) rfl rfl rfl rfl rfl rfl rfl ?_
    repeat (first | refine r_op rfl rfl rfl rfl ?_ | refine r_skip rfl rfl rfl ?_ | refine .done ?_ | refine r_seq (T := TT) ?_ | refine r_region (T := TT) rfl ?_ | refine r_block (T := TT) ?_ | refine r_then (T := TT) rfl ?_ | refine r_else (T := TT) rfl ?_)
    exact r_fin (T := TT) rfl rfl
theorem ok_q_Sqrt_n {a : Rat} (h2 : (digs (a.den : Int).natAbs).length ≤ 2147483) (h0 : a.num < 0) : CallOK Tryz.prog 23 [dQ a] (.tup [dQ0, dB false]) := by
  obtain ⟨t, t1, t2⟩ := isq_exists a.den
  obtain ⟨b, hb⟩ : ∃ b, decide ((t : Int) * t = (a.den : Int)) = b := ⟨_, rfl⟩
  refine callOK_of TT_ok mixT Tryz.func23 rfl rfl (Nat.le_of_ble_eq_true rfl) ?_
  repeat (first | refine r_op rfl rfl rfl rfl ?_ | refine r_skip rfl rfl rfl ?_ | refine .done ?_ | refine r_seq (T := TT) ?_ | refine r_region (T := TT) rfl ?_ | refine r_block (T := TT) ?_ | refine r_then (T := TT) rfl ?_ | refine r_else (T := TT) rfl ?_)
  refine r_call (ok_q_rootN h0) rfl rfl rfl rfl rfl rfl rfl ?_
  repeat (first | refine r_op rfl rfl rfl rfl ?_ | refine r_skip rfl rfl rfl ?_ | refine .done ?_ | refine r_seq (T := TT) ?_ | refine r_region (T := TT) rfl ?_ | refine r_block (T := TT) ?_ | refine r_then (T := TT) rfl ?_ | refine r_else (T := TT) rfl ?_)
  refine r_call (ok_q_root (by omega) h2 (r := t) (by rw [Int.natAbs_natCast]; exact t1) (by rw [Int.natAbs_natCast]; exact t2) hb) rfl rfl rfl rfl rfl rfl rfl ?_
  repeat (first | refine r_op rfl rfl rfl rfl ?_ | refine r_skip rfl rfl rfl ?_ | refine .done ?_ | refine r_seq (T := TT) ?_ | refine r_region (T := TT) rfl ?_ | refine r_block (T := TT) ?_ | refine r_then (T := TT) rfl ?_ | refine r_else (T := TT) rfl ?_)
  exact r_fin (T := TT) rfl rfl
/-! the examples -/
theorem divInt_is {n d a : Int} {b : Nat} (hd : d ≠ 0) (hb : b ≠ 0) (hc : Nat.Coprime a.natAbs b) (h : n * b = a * d) : Rat.divInt n d = ⟨a, b, hb, hc⟩ := by
  have h1 := Rat.num_divInt_den (⟨a, b, hb, hc⟩ : Rat)
  rw [← h1, Rat.divInt_eq_divInt_iff hd (by show (b : Int) ≠ 0; omega)]
  exact h
theorem dec_lt10 {n : Nat} (h0 : n ≠ 0) (h : n < 10) : dec n = [dg n] := by rw [dec_pos h0, show n / 10 = 0 by omega, dec_zero, show n % 10 = n by omega]; rfl
theorem dec_15 : dec 15 = [49, 53] := by rw [dec_pos (by decide), dec_lt10 (by decide) (by decide)]; rfl
theorem okT_of {b : Bool} {c : UInt8} {r : List UInt8} (h : (c :: r).all isDb = true) (hc : c ≠ 48) : okT b (c :: r) := ⟨by simp, fun x hx => isDb_iff.1 (List.all_eq_true.1 h x hx), .inl fun x y e => by cases e; exact hc⟩
theorem parse_1 : parseQ [45, 49, 46, 50, 53, 48] = some ⟨-5, 4, by decide, by decide⟩ := by
  have h : posQ [49, 46, 50, 53, 48] = some (Rat.divInt ((num [49] * 10 ^ [50, 53, 48].length + num [50, 53, 48] : Nat) : Int) ((10 ^ [50, 53, 48].length : Nat) : Int)) := by
    have := pos_dot (a := [49]) (b := [50, 53, 48]) (by decide) (by decide)
    rw [if_pos ⟨okT_of (by decide) (by decide), by simp, by decide⟩] at this
    exact this
  have e : Rat.divInt ((num [49] * 10 ^ [50, 53, 48].length + num [50, 53, 48] : Nat) : Int) ((10 ^ [50, 53, 48].length : Nat) : Int) = ⟨5, 4, by decide, by decide⟩ := divInt_is (by decide) (by decide) (by decide) (by decide)
  rw [e] at h
  unfold parseQ
  rw [if_pos (by decide)]
  show (match posQ [49, 46, 50, 53, 48] with | none => none | some q => if true = true then (if q = 0 then none else some (-q)) else some q) = _
  rw [h]
  rfl
theorem parse_2 : parseQ [50, 47, 52] = none := by
  have h : posQ [50, 47, 52] = none := by
    have := pos_slash (a := [50]) (b := [52]) (by decide)
    rw [if_neg (fun e => absurd e.2.2.2.2 (by decide))] at this
    exact this
  unfold parseQ
  rw [if_pos (by decide)]
  show (match posQ [50, 47, 52] with | none => none | some q => if false = true then (if q = 0 then none else some (-q)) else some q) = _
  rw [h]
theorem parse_3 : parseQ [45, 48] = none := by
  have h : posQ [48] = some 0 := by
    have := pos_none (a := [48]) (by decide) (by decide)
    rw [if_pos ⟨by simp, by decide, .inr ⟨rfl, rfl⟩⟩] at this
    exact this
  unfold parseQ
  rw [if_pos (by decide)]
  show (match posQ [48] with | none => none | some q => if true = true then (if q = 0 then none else some (-q)) else some q) = _
  rw [h]
  rfl

end Go.Proofs.YtecjnnhkbmkemaaGreatDoor

namespace Go.Proofs.YtecjnnhkbmkemaaGreatDoor
open Go.ChangeShapes Go.WideShapes Go.ChangeAt Go.RowKit Go.Joins

theorem szQ1 {q : Rat} (h1 : q.num.natAbs < 4294967296) (h2 : (q.den : Int).natAbs < 4294967296) : SzQ 1 q := ⟨.small h1, .small h2⟩
theorem lit_eq {q : Rat} {a : Int} {b : Nat} {hb : b ≠ 0} {hc : Nat.Coprime a.natAbs b} (h1 : q.num = a) (h2 : q.den = b) : q = ⟨a, b, hb, hc⟩ := Rat.ext h1 h2
theorem ok_l2_awake : CallOK Tryz.prog 12 [] (.one (dB true)) := by
  have e1 : (⟨1, 6, by decide, by decide⟩ + ⟨1, 10, by decide, by decide⟩ : Rat) = ⟨4, 15, by decide, by decide⟩ := by rw [← add_divInt]; exact divInt_is (by decide) (by decide) (by decide) (by decide)
  have e2 : (⟨-7, 2, by decide, by decide⟩ : Rat).floor = -4 := by rw [Rat.floor_def]; rfl
  have t1 : fmtQ ⟨4, 15, by decide, by decide⟩ = [52, 47, 49, 53] := by
    unfold fmtQ fmt
    simp [dec_lt10, dec_15]
    decide
  have t2 : fmtQ ⟨3, 2, by decide, by decide⟩ = [51, 47, 50] := by
    unfold fmtQ fmt
    simp [dec_lt10]
    decide
  have t3 : fmtQ ⟨-5, 4, by decide, by decide⟩ = [45, 53, 47, 52] := by
    unfold fmtQ fmt
    simp [dec_lt10]
    decide
  refine callOK_of TT_ok mixT Tryz.func12 rfl rfl (Nat.le_of_ble_eq_true rfl) ?_
  repeat (first | refine r_op rfl rfl rfl rfl ?_ | refine r_skip rfl rfl rfl ?_ | refine .done ?_ | refine r_seq (T := TT) ?_ | refine r_region (T := TT) rfl ?_ | refine r_block (T := TT) ?_ | refine r_then (T := TT) rfl ?_ | refine r_else (T := TT) rfl ?_)
  refine r_call (ok_q_Frac 1 6 (by decide) (by decide) (by decide) (by decide) (q := ⟨1, 6, by decide, by decide⟩) (divInt_is (by decide) (by decide) (by decide) (by decide))) rfl rfl rfl rfl rfl rfl rfl ?_
  repeat (first | refine r_op rfl rfl rfl rfl ?_ | refine r_skip rfl rfl rfl ?_ | refine .done ?_ | refine r_seq (T := TT) ?_ | refine r_region (T := TT) rfl ?_ | refine r_block (T := TT) ?_ | refine r_then (T := TT) rfl ?_ | refine r_else (T := TT) rfl ?_)
  refine r_call (ok_q_Frac 1 10 (by decide) (by decide) (by decide) (by decide) (q := ⟨1, 10, by decide, by decide⟩) (divInt_is (by decide) (by decide) (by decide) (by decide))) rfl rfl rfl rfl rfl rfl rfl ?_
  repeat (first | refine r_op rfl rfl rfl rfl ?_ | refine r_skip rfl rfl rfl ?_ | refine .done ?_ | refine r_seq (T := TT) ?_ | refine r_region (T := TT) rfl ?_ | refine r_block (T := TT) ?_ | refine r_then (T := TT) rfl ?_ | refine r_else (T := TT) rfl ?_)
  refine r_call (ok_q_Add (szQ1 (by decide) (by decide)) (szQ1 (by decide) (by decide)) (by decide) e1) rfl rfl rfl rfl rfl rfl rfl ?_
  repeat (first | refine r_op rfl rfl rfl rfl ?_ | refine r_skip rfl rfl rfl ?_ | refine .done ?_ | refine r_seq (T := TT) ?_ | refine r_region (T := TT) rfl ?_ | refine r_block (T := TT) ?_ | refine r_then (T := TT) rfl ?_ | refine r_else (T := TT) rfl ?_)
  refine r_call (ok_q_Frac 9 4 (by decide) (by decide) (by decide) (by decide) (q := ⟨9, 4, by decide, by decide⟩) (divInt_is (by decide) (by decide) (by decide) (by decide))) rfl rfl rfl rfl rfl rfl rfl ?_
  repeat (first | refine r_op rfl rfl rfl rfl ?_ | refine r_skip rfl rfl rfl ?_ | refine .done ?_ | refine r_seq (T := TT) ?_ | refine r_region (T := TT) rfl ?_ | refine r_block (T := TT) ?_ | refine r_then (T := TT) rfl ?_ | refine r_else (T := TT) rfl ?_)
  refine r_call (ok_q_Sqrt_t (a := ⟨9, 4, by decide, by decide⟩) (q := ⟨3, 2, by decide, by decide⟩) (r := 3) (t := 2) (Nat.le_trans (szQ1 (q := ⟨9, 4, by decide, by decide⟩) (by decide) (by decide)).1.digs (by decide)) (Nat.le_trans (szQ1 (q := ⟨9, 4, by decide, by decide⟩) (by decide) (by decide)).2.digs (by decide)) (by decide) (by decide) ⟨rfl, rfl⟩) rfl rfl rfl rfl rfl rfl rfl ?_
  repeat (first | refine r_op rfl rfl rfl rfl ?_ | refine r_skip rfl rfl rfl ?_ | refine .done ?_ | refine r_seq (T := TT) ?_ | refine r_region (T := TT) rfl ?_ | refine r_block (T := TT) ?_ | refine r_then (T := TT) rfl ?_ | refine r_else (T := TT) rfl ?_)
  refine r_call (ok_q_Frac 1 2 (by decide) (by decide) (by decide) (by decide) (q := ⟨1, 2, by decide, by decide⟩) (divInt_is (by decide) (by decide) (by decide) (by decide))) rfl rfl rfl rfl rfl rfl rfl ?_
  repeat (first | refine r_op rfl rfl rfl rfl ?_ | refine r_skip rfl rfl rfl ?_ | refine .done ?_ | refine r_seq (T := TT) ?_ | refine r_region (T := TT) rfl ?_ | refine r_block (T := TT) ?_ | refine r_then (T := TT) rfl ?_ | refine r_else (T := TT) rfl ?_)
  refine r_call (ok_q_Sqrt_f (a := ⟨1, 2, by decide, by decide⟩) (r := 1) (t := 1) (Nat.le_trans (szQ1 (q := ⟨1, 2, by decide, by decide⟩) (by decide) (by decide)).1.digs (by decide)) (Nat.le_trans (szQ1 (q := ⟨1, 2, by decide, by decide⟩) (by decide) (by decide)).2.digs (by decide)) (by decide) (by decide) (by decide) (by decide)) rfl rfl rfl rfl rfl rfl rfl ?_
  repeat (first | refine r_op rfl rfl rfl rfl ?_ | refine r_skip rfl rfl rfl ?_ | refine .done ?_ | refine r_seq (T := TT) ?_ | refine r_region (T := TT) rfl ?_ | refine r_block (T := TT) ?_ | refine r_then (T := TT) rfl ?_ | refine r_else (T := TT) rfl ?_)
  refine r_call (ok_q_Parse parse_1) rfl rfl rfl rfl rfl rfl rfl ?_
  repeat (first | refine r_op rfl rfl rfl rfl ?_ | refine r_skip rfl rfl rfl ?_ | refine .done ?_ | refine r_seq (T := TT) ?_ | refine r_region (T := TT) rfl ?_ | refine r_block (T := TT) ?_ | refine r_then (T := TT) rfl ?_ | refine r_else (T := TT) rfl ?_)
  refine r_call (ok_q_ParseN parse_2) rfl rfl rfl rfl rfl rfl rfl ?_
  repeat (first | refine r_op rfl rfl rfl rfl ?_ | refine r_skip rfl rfl rfl ?_ | refine .done ?_ | refine r_seq (T := TT) ?_ | refine r_region (T := TT) rfl ?_ | refine r_block (T := TT) ?_ | refine r_then (T := TT) rfl ?_ | refine r_else (T := TT) rfl ?_)
  refine r_call (ok_q_ParseN parse_3) rfl rfl rfl rfl rfl rfl rfl ?_
  repeat (first | refine r_op rfl rfl rfl rfl ?_ | refine r_skip rfl rfl rfl ?_ | refine .done ?_ | refine r_seq (T := TT) ?_ | refine r_region (T := TT) rfl ?_ | refine r_block (T := TT) ?_ | refine r_then (T := TT) rfl ?_ | refine r_else (T := TT) rfl ?_)
  refine r_call (ok_q_Frac (-7) 2 (by decide) (by decide) (by decide) (by decide) (q := ⟨-7, 2, by decide, by decide⟩) (divInt_is (by decide) (by decide) (by decide) (by decide))) rfl rfl rfl rfl rfl rfl rfl ?_
  repeat (first | refine r_op rfl rfl rfl rfl ?_ | refine r_skip rfl rfl rfl ?_ | refine .done ?_ | refine r_seq (T := TT) ?_ | refine r_region (T := TT) rfl ?_ | refine r_block (T := TT) ?_ | refine r_then (T := TT) rfl ?_ | refine r_else (T := TT) rfl ?_)
  refine r_call (ok_q_Floor (j := 1) (szQ1 (by decide) (by decide)) (by decide) e2) rfl rfl rfl rfl rfl rfl rfl ?_
  repeat (first | refine r_op rfl rfl rfl rfl ?_ | refine r_skip rfl rfl rfl ?_ | refine .done ?_ | refine r_seq (T := TT) ?_ | refine r_region (T := TT) rfl ?_ | refine r_block (T := TT) ?_ | refine r_then (T := TT) rfl ?_ | refine r_else (T := TT) rfl ?_)
  refine r_call (okz_i_Int64 (a := -4) (z := -4) (b := true) (.small (by decide)) rfl) rfl rfl rfl rfl rfl rfl rfl ?_
  repeat (first | refine r_op rfl rfl rfl rfl ?_ | refine r_skip rfl rfl rfl ?_ | refine .done ?_ | refine r_seq (T := TT) ?_ | refine r_region (T := TT) rfl ?_ | refine r_block (T := TT) ?_ | refine r_then (T := TT) rfl ?_ | refine r_else (T := TT) rfl ?_)
  refine r_call (ok_q_Format (k := 1) (szQ1 (by decide) (by decide)) (by decide) t1) rfl rfl rfl rfl rfl rfl rfl ?_
  refine r_bin rfl rfl rfl rfl rfl rfl rfl (binV_eqT (a := [52, 47, 49, 53]) (b := [52, 47, 49, 53]) rfl) ?_
  repeat (first | refine r_op rfl rfl rfl rfl ?_ | refine r_skip rfl rfl rfl ?_ | refine .done ?_ | refine r_seq (T := TT) ?_ | refine r_region (T := TT) rfl ?_ | refine r_block (T := TT) ?_ | refine r_then (T := TT) rfl ?_ | refine r_else (T := TT) rfl ?_)
  refine r_call (ok_q_Format (k := 1) (szQ1 (by decide) (by decide)) (by decide) t2) rfl rfl rfl rfl rfl rfl rfl ?_
  refine r_bin rfl rfl rfl rfl rfl rfl rfl (binV_eqT (a := [51, 47, 50]) (b := [51, 47, 50]) rfl) ?_
  repeat (first | refine r_op rfl rfl rfl rfl ?_ | refine r_skip rfl rfl rfl ?_ | refine .done ?_ | refine r_seq (T := TT) ?_ | refine r_region (T := TT) rfl ?_ | refine r_block (T := TT) ?_ | refine r_then (T := TT) rfl ?_ | refine r_else (T := TT) rfl ?_)
  refine r_call (ok_q_Format (k := 1) (szQ1 (by decide) (by decide)) (by decide) t3) rfl rfl rfl rfl rfl rfl rfl ?_
  refine r_bin rfl rfl rfl rfl rfl rfl rfl (binV_eqT (a := [45, 53, 47, 52]) (b := [45, 53, 47, 52]) rfl) ?_
  repeat (first | refine r_op rfl rfl rfl rfl ?_ | refine r_skip rfl rfl rfl ?_ | refine .done ?_ | refine r_seq (T := TT) ?_ | refine r_region (T := TT) rfl ?_ | refine r_block (T := TT) ?_ | refine r_then (T := TT) rfl ?_ | refine r_else (T := TT) rfl ?_)
  exact r_fin (T := TT) rfl rfl
/-! the guard -/
abbrev RP := Bool × List Nat × Bool × List Nat
def aP (p : RP) : List AV := aI2 p.1 p.2.1 p.2.2.1 p.2.2.2
def aQs (l : List RP) : List AV := l.flatMap aP
def fewP (p : RP) : Bool := fewB 20 p.1 p.2.1 p.2.2.1 p.2.2.2
def rpQ (q : Rat) : RP := (decide (q.num < 0), digs q.num.natAbs, decide ((q.den : Int) < 0), digs (q.den : Int).natAbs)
def WdP (p : RP) : Prop := Wd p.2.1 ∧ Wd p.2.2.2
theorem aQs_at : ∀ {l : List RP} {i : Nat} {p : RP}, l[i]? = some p → ∀ (j : Nat) (a : AV), (aP p)[j]? = some a → (aQs l)[i * 4 + j]? = some a
  | [], i, p, h, _, _, _ => by simp at h
  | q :: l, 0, p, h, j, a, ha => by
    simp at h; subst h
    have hj : j < 4 := (List.getElem?_eq_some_iff.1 ha).1
    show (aP q ++ aQs l)[0 * 4 + j]? = _
    rw [Nat.zero_mul, Nat.zero_add, List.getElem?_append_left (by exact hj)]
    exact ha
  | q :: l, i + 1, p, h, j, a, ha => by
    have := aQs_at (l := l) (i := i) (by simpa using h) j a ha
    rw [show (i + 1) * 4 + j = 4 + (i * 4 + j) by omega]
    show (aP q ++ aQs l)[4 + (i * 4 + j)]? = _
    rw [List.getElem?_append_right (by show 4 ≤ _; omega)]
    rw [show 4 + (i * 4 + j) - (aP q).length = i * 4 + j by show 4 + (i * 4 + j) - 4 = _; omega]
    exact this
theorem ok_l2_few (l : List RP) (hw : ∀ p ∈ l, WdP p) (hlen : l.length ≤ 1000) {b : Bool} (hb : l.all fewP = b) : CallOK Tryz.prog 13 [.leaf (.sl l.length (aQs l))] (.one (dB b)) := by
  refine callOK_of TT_ok mixT Tryz.func13 rfl rfl (Nat.le_of_ble_eq_true rfl) ?_
  repeat (first | refine r_op rfl rfl rfl rfl ?_ | refine r_skip rfl rfl rfl ?_ | refine .done ?_ | refine r_seq (T := TT) ?_ | refine r_region (T := TT) rfl ?_ | refine r_block (T := TT) ?_ | refine r_then (T := TT) rfl ?_ | refine r_else (T := TT) rfl ?_)
  refine r_loop Nat (fun j => j ≤ l.length ∧ ∀ i p, i < j → l[i]? = some p → fewP p = true) (fun j => ⟨[(5, .d (.leaf (.sl l.length (aQs l)))), (6, .d (dN .i64 l.length)), (7, .d (dN .i64 j))], []⟩) (fun j => l.length - j) 0 ⟨Nat.zero_le _, fun i p h => absurd h (Nat.not_lt_zero _)⟩ (weak ⟨rfl, rfl, rfl, trivial⟩ trivial rfl) ?_
  rintro j ⟨hj, hall⟩
  repeat (first | refine r_op rfl rfl rfl rfl ?_ | refine r_skip rfl rfl rfl ?_ | refine .done ?_ | refine r_seq (T := TT) ?_ | refine r_region (T := TT) rfl ?_ | refine r_block (T := TT) ?_ | refine r_then (T := TT) rfl ?_ | refine r_else (T := TT) rfl ?_)
  refine r_cond rfl (fun h => ?_) (fun h => ?_)
  · have hlt : j < l.length := by have := of_decide_eq_true h; omega
    obtain ⟨p, hp⟩ : ∃ p, l[j] = p := ⟨_, rfl⟩
    have hjp : l[j]? = some p := by rw [List.getElem?_eq_getElem hlt, hp]
    have hwp := hw p (List.mem_of_getElem? hjp)
    repeat (first | refine r_op rfl rfl rfl rfl ?_ | refine r_skip rfl rfl rfl ?_ | refine .done ?_ | refine r_seq (T := TT) ?_ | refine r_region (T := TT) rfl ?_ | refine r_block (T := TT) ?_ | refine r_then (T := TT) rfl ?_ | refine r_else (T := TT) rfl ?_)
    refine r_idx (cs' := aP p) hlt (aQs_at hjp) (by show 0 < 4; decide) rfl rfl rfl rfl rfl rfl rfl rfl ?_
    repeat (first | refine r_op rfl rfl rfl rfl ?_ | refine r_skip rfl rfl rfl ?_ | refine .done ?_ | refine r_seq (T := TT) ?_ | refine r_region (T := TT) rfl ?_ | refine r_block (T := TT) ?_ | refine r_then (T := TT) rfl ?_ | refine r_else (T := TT) rfl ?_)
    cases hf : fewP p
    · refine r_call (ok_r2_Few (k := 20) (na := p.1) (nb := p.2.2.1) hwp.1 hwp.2 (by decide) hf) rfl rfl rfl rfl rfl rfl rfl ?_
      repeat (first | refine r_op rfl rfl rfl rfl ?_ | refine r_skip rfl rfl rfl ?_ | refine .done ?_ | refine r_seq (T := TT) ?_ | refine r_region (T := TT) rfl ?_ | refine r_block (T := TT) ?_ | refine r_then (T := TT) rfl ?_ | refine r_else (T := TT) rfl ?_)
      have : b = false := by
        rw [← hb, List.all_eq_false]
        exact ⟨p, List.mem_of_getElem? hjp, by rw [hf]; simp⟩
      rw [this]
      exact r_fin (T := TT) rfl rfl
    · refine r_call (ok_r2_Few (k := 20) (na := p.1) (nb := p.2.2.1) hwp.1 hwp.2 (by decide) hf) rfl rfl rfl rfl rfl rfl rfl ?_
      repeat (first | refine r_op rfl rfl rfl rfl ?_ | refine r_skip rfl rfl rfl ?_ | refine .done ?_ | refine r_seq (T := TT) ?_ | refine r_region (T := TT) rfl ?_ | refine r_block (T := TT) ?_ | refine r_then (T := TT) rfl ?_ | refine r_else (T := TT) rfl ?_)
      refine ⟨j + 1, ⟨hlt, fun i p' hi hp' => ?_⟩, by omega, weak ⟨rfl, rfl, ?_, trivial⟩ trivial rfl⟩
      · rcases Nat.lt_succ_iff_lt_or_eq.1 hi with h3 | rfl
        · exact hall i p' h3 hp'
        · rw [hjp] at hp'; cases hp'; exact hf
      · exact tv_i64 (by omega) (by omega)
  · have hge : j = l.length := by have := of_decide_eq_false h; omega
    refine r_exit ?_
    repeat (first | refine r_op rfl rfl rfl rfl ?_ | refine r_skip rfl rfl rfl ?_ | refine .done ?_ | refine r_seq (T := TT) ?_ | refine r_region (T := TT) rfl ?_ | refine r_block (T := TT) ?_ | refine r_then (T := TT) rfl ?_ | refine r_else (T := TT) rfl ?_)
    have : b = true := by
      rw [← hb, List.all_eq_true]
      intro p hp
      obtain ⟨i, hi⟩ := List.getElem?_of_mem hp
      exact hall i p (by rw [hge]; exact (List.getElem?_eq_some_iff.1 hi).1) hi
    rw [this]
    exact r_fin (T := TT) rfl rfl
theorem few_rat {p : RP} (hw : WdP p) (h : fewP p = true) : ∃ q : Rat, aP p = aQ q ∧ SzQ 20 q := by
  unfold fewP fewB at h
  simp only [Bool.and_eq_true, decide_eq_true_eq] at h
  obtain ⟨q, e, e1, e2⟩ := valid_rat hw.1 hw.2 h.2
  exact ⟨q, e, .of_digs (by rw [← e1]; exact h.1.1), .of_digs (by rw [← e2]; exact h.1.2)⟩
theorem fewQ {q : Rat} (h : SzQ 20 q) : fewP (rpQ q) = true := by
  unfold fewP fewB rpQ
  rw [decide_eq_true h.1.digs, decide_eq_true h.2.digs, validQ_rat]
  rfl
theorem wdQ (q : Rat) : WdP (rpQ q) := ⟨Wd_digs _, Wd_digs _⟩

theorem wdl1 {p : RP} (h : WdP p) : ∀ x ∈ [p], WdP x := fun x hx => by simp at hx; subst hx; exact h
theorem wdl2 {p q : RP} (h : WdP p) (k : WdP q) : ∀ x ∈ [p, q], WdP x := fun x hx => by
  simp at hx
  rcases hx with rfl | rfl
  · exact h
  · exact k
theorem wdl3 {p q r : RP} (h : WdP p) (k : WdP q) (l : WdP r) : ∀ x ∈ [p, q, r], WdP x := fun x hx => by
  simp at hx
  rcases hx with rfl | rfl | rfl
  · exact h
  · exact k
  · exact l
theorem few1 {a : Rat} (h : SzQ 20 a) : [rpQ a].all fewP = true := by simp [fewQ h]
theorem few2 {a b : Rat} (h : SzQ 20 a) (k : SzQ 20 b) : [rpQ a, rpQ b].all fewP = true := by simp [fewQ h, fewQ k]
theorem few3 {a b c : Rat} (h : SzQ 20 a) (k : SzQ 20 b) (l : SzQ 20 c) : [rpQ a, rpQ b, rpQ c].all fewP = true := by simp [fewQ h, fewQ k, fewQ l]
theorem same_t {k : Nat} {a b : Rat} (h : SzQ k a) (hk : k ≤ 2147483648) (e : a = b) : CallOK Tryz.prog 25 [dQ a, dQ b] (.one (dB true)) := ok_r2_Same h hk (decide_eq_true e)

end Go.Proofs.YtecjnnhkbmkemaaGreatDoor
