/- Contracts on rows of words over plain data; the greatest common divisor of both packages. -/
import Derived.Test.YtecjnnhkbmkemaaGreatDoorPAmK
import Derived.Test.YtecjnnhkbmkemaaGreatDoorPAmL1
namespace Go.Proofs.YtecjnnhkbmkemaaGreatDoor
open Go.RowKit
def dW (xs : List Nat) : DV := .leaf (aW xs)
theorem retA_QR {S : Nat → Prop} {w w' : World} {e : Ending} {q r : Nat} (h : NoWord S w) (hr : RetQR q r w e w') : RetA S (.tup [dW (digs q), dW (digs r)]) w e w' := by
  obtain ⟨A, n, c, B, m, d, rfl, hq, hr, hb⟩ := hr
  refine ⟨_, rfl, ⟨[.slice A n c, .slice B m d], rfl, rfl, fun i x u h1 h2 => ?_⟩, hb⟩
  match i with
  | 0 => simp at h1 h2; subst h1 h2; exact aW_of (h.grow hb) hq
  | 1 => simp at h1 h2; subst h1 h2; exact aW_of (h.grow hb) hr
  | i + 2 => simp at h1
theorem ok_i_trim {xs : List Nat} (hw : Wd xs) : CallOK Tryz.prog 88 [dW xs] (.one (dW (trim xs))) :=
  ⟨enter_of Tryz.func88 rfl rfl, fun S w vs hS hv => by
    match vs, hv with
    | [v], ⟨h, _⟩ =>
      obtain ⟨A, n, c, rfl, hx⟩ := wrd_of h hw
      refine (i_trim A n c xs w hx).mono ?_
      rintro e w' ⟨rfl, rfl⟩
      exact ⟨_, rfl, aW_of hS hx.trim, Below.refl _ _⟩⟩
theorem ok_r1_trim {xs : List Nat} (hw : Wd xs) : CallOK Tryz.prog 54 [dW xs] (.one (dW (trim xs))) :=
  ⟨enter_of Tryz.func54 rfl rfl, fun S w vs hS hv => by
    match vs, hv with
    | [v], ⟨h, _⟩ =>
      obtain ⟨A, n, c, rfl, hx⟩ := wrd_of h hw
      refine (r1_trim A n c xs w hx).mono ?_
      rintro e w' ⟨rfl, rfl⟩
      exact ⟨_, rfl, aW_of hS hx.trim, Below.refl _ _⟩⟩
theorem ok_i_divide {a b : Nat} (h : (digs a).length ≤ 2147483648) (hb : 0 < b) : CallOK Tryz.prog 89 [dW (digs a), dW (digs b)] (.tup [dW (digs (a / b)), dW (digs (a % b))]) :=
  ⟨enter_of Tryz.func89 rfl rfl, fun S w vs hS hv => by
    match vs, hv with
    | [v, u], ⟨h1, h2, _⟩ =>
      obtain ⟨A, n, c, rfl, hx⟩ := wrd_of h1 (Wd_digs _)
      obtain ⟨B, m, d, rfl, hy⟩ := wrd_of h2 (Wd_digs _)
      exact (divOk h hb A n c B m d w hx hy).mono fun e w' he => retA_QR hS he⟩
theorem ok_r1_divide {a b : Nat} (h : (digs a).length ≤ 2147483648) (hb : 0 < b) : CallOK Tryz.prog 99 [dW (digs a), dW (digs b)] (.tup [dW (digs (a / b)), dW (digs (a % b))]) :=
  ⟨enter_of Tryz.func99 rfl rfl, fun S w vs hS hv => by
    match vs, hv with
    | [v, u], ⟨h1, h2, _⟩ =>
      obtain ⟨A, n, c, rfl, hx⟩ := wrd_of h1 (Wd_digs _)
      obtain ⟨B, m, d, rfl, hy⟩ := wrd_of h2 (Wd_digs _)
      exact (rdivOk h hb A n c B m d w hx hy).mono fun e w' he => retA_QR hS he⟩
theorem ok_i_signed {neg : Bool} {xs : List Nat} (hw : Wd xs) {z : Int} (hz : toZ neg xs = z) : CallOK Tryz.prog 92 [dB neg, dW xs] (.one (dZ z)) :=
  ⟨enter_of Tryz.func92 rfl rfl, fun S w vs hS hv => by
    match vs, hv with
    | [v, u], ⟨h1, h2, _⟩ =>
      obtain rfl := av_val h1
      obtain ⟨A, n, c, rfl, hx⟩ := wrd_of h2 hw
      exact (i_signed_z hx hz).mono fun e w' he => retA_int hS he⟩
theorem ok_r1_signed {neg : Bool} {xs : List Nat} (hw : Wd xs) {z : Int} (hz : toZ neg xs = z) : CallOK Tryz.prog 56 [dB neg, dW xs] (.one (dZ z)) :=
  ⟨enter_of Tryz.func56 rfl rfl, fun S w vs hS hv => by
    match vs, hv with
    | [v, u], ⟨h1, h2, _⟩ =>
      obtain rfl := av_val h1
      obtain ⟨A, n, c, rfl, hx⟩ := wrd_of h2 hw
      exact (r1_signed_z hx hz).mono fun e w' he => retA_int hS he⟩
theorem ok_clone {xs : List Nat} (hw : Wd xs) (hl : xs.length ≤ 4294967296) : CallOK Tryz.prog 102 [dW xs] (.one (dW xs)) :=
  ⟨enter_of Tryz.func102 rfl rfl, fun S w vs hS hv => by
    match vs, hv with
    | [v], ⟨h, _⟩ =>
      obtain ⟨A, n, c, rfl, hx⟩ := wrd_of h hw
      refine (clone_u32 A n c xs w hx (by rw [← hx.len]; exact hl)).mono ?_
      rintro e w' ⟨A', n', c', zs, rfl, hz, rfl, hb⟩
      exact ⟨_, rfl, aW_of (hS.grow hb) hz, hb⟩⟩
theorem ok_toUint {xs : List Nat} (hw : Wd xs) (hl : xs.length ≤ 2) : CallOK Tryz.prog 87 [dW xs] (.one (dN .u64 (val xs))) :=
  ⟨enter_of Tryz.func87 rfl rfl, fun S w vs hS hv => by
    match vs, hv with
    | [v], ⟨h, _⟩ =>
      obtain ⟨A, n, c, rfl, hx⟩ := wrd_of h hw
      refine (i_toUint A n c xs w hx (by rw [← hx.len]; exact hl)).mono ?_
      rintro e w' ⟨rfl, hb⟩
      exact ⟨_, rfl, AV.M.val rfl, hb⟩⟩
theorem ok_fromUint (n : Nat) (hn : n < 18446744073709551616) : CallOK Tryz.prog 116 [dN .u64 n] (.one (dW (digs n))) :=
  ⟨enter_of Tryz.func116 rfl rfl, fun S w vs hS hv => by
    match vs, hv with
    | [v], ⟨h, _⟩ =>
      obtain rfl := av_val h
      refine (i_fromUint n hn w).mono ?_
      rintro e w' ⟨A', n', c', zs, rfl, hz, rfl, hb⟩
      exact ⟨_, rfl, aW_of (hS.grow hb) hz, hb⟩⟩
theorem digs_length_zero {n : Nat} : (digs n).length = 0 ↔ n = 0 := by
  constructor
  · intro h; exact digs_eq_nil.1 (List.eq_nil_of_length_eq_zero h)
  · rintro rfl; rw [digs_zero]; rfl
theorem gcd_step {a b : Nat} : Nat.gcd b (a % b) = Nat.gcd a b := by rw [Nat.gcd_comm a b, Nat.gcd_rec b a, Nat.gcd_comm]
set_option maxHeartbeats 1000000 in
theorem ok_r1_GCD {na nb : Bool} {xs ys : List Nat} (hw : Wd xs) (hw' : Wd ys) (h1 : Fit xs) (h2 : Fit ys) : CallOK Tryz.prog 62 [dI na xs, dI nb ys] (.one (dZ (Nat.gcd (val xs) (val ys)))) := by
  have f1 : (digs (val xs)).length ≤ 2147483648 := by have := trim_length hw; unfold trim at this; unfold Fit at h1; omega
  have f2 : (digs (val ys)).length ≤ 2147483648 := by have := trim_length hw'; unfold trim at this; unfold Fit at h2; omega
  refine callOK_of TT_ok mixT Tryz.func62 rfl rfl (Nat.le_of_ble_eq_true rfl) ?_
  repeat (first | refine r_op rfl rfl rfl rfl ?_ | refine r_skip rfl rfl rfl ?_ | refine .done ?_ | refine r_seq (T := TT) ?_ | refine r_region (T := TT) rfl ?_ | refine r_block (T := TT) ?_ | refine r_then (T := TT) rfl ?_ | refine r_else (T := TT) rfl ?_)
  refine r_call (ok_r1_trim hw) rfl rfl rfl rfl rfl rfl rfl ?_
  repeat (first | refine r_op rfl rfl rfl rfl ?_ | refine r_skip rfl rfl rfl ?_ | refine .done ?_ | refine r_seq (T := TT) ?_ | refine r_region (T := TT) rfl ?_ | refine r_block (T := TT) ?_ | refine r_then (T := TT) rfl ?_ | refine r_else (T := TT) rfl ?_)
  refine r_call (ok_r1_trim hw') rfl rfl rfl rfl rfl rfl rfl ?_
  repeat (first | refine r_op rfl rfl rfl rfl ?_ | refine r_skip rfl rfl rfl ?_ | refine .done ?_ | refine r_seq (T := TT) ?_ | refine r_region (T := TT) rfl ?_ | refine r_block (T := TT) ?_ | refine r_then (T := TT) rfl ?_ | refine r_else (T := TT) rfl ?_)
  refine r_loop (Nat × Nat) (fun p => Nat.gcd p.1 p.2 = Nat.gcd (val xs) (val ys) ∧ (digs p.1).length ≤ 2147483648 ∧ (digs p.2).length ≤ 2147483648) (fun p => ⟨[(4, .box 2 0), (5, .d (dW (digs p.1))), (6, .d (dW (digs p.2)))], [(2, some [.val (.bool false), .sl 0 []])]⟩) (fun p => p.2) (val xs, val ys) ⟨rfl, f1, f2⟩ (weak ⟨rfl, rfl, rfl, trivial⟩ ⟨rfl, trivial⟩ rfl) ?_
  rintro ⟨u, v⟩ ⟨hg, g1, g2⟩
  dsimp only at hg g1 g2 ⊢
  repeat (first | refine r_op rfl rfl rfl rfl ?_ | refine r_skip rfl rfl rfl ?_ | refine .done ?_ | refine r_seq (T := TT) ?_ | refine r_region (T := TT) rfl ?_ | refine r_block (T := TT) ?_ | refine r_then (T := TT) rfl ?_ | refine r_else (T := TT) rfl ?_)
  refine r_cond rfl (fun h => ?_) (fun h => ?_)
  · have hv : 0 < v := by
      rcases Nat.eq_zero_or_pos v with hv | hv
      · have := of_decide_eq_true h; rw [digs_length_zero.2 hv] at this; omega
      · exact hv
    refine r_skipc ?_
    repeat (first | refine r_op rfl rfl rfl rfl ?_ | refine r_skip rfl rfl rfl ?_ | refine .done ?_ | refine r_seq (T := TT) ?_ | refine r_region (T := TT) rfl ?_ | refine r_block (T := TT) ?_ | refine r_then (T := TT) rfl ?_ | refine r_else (T := TT) rfl ?_)
    refine r_call (ok_r1_divide g1 hv) rfl rfl rfl rfl rfl rfl rfl ?_
    repeat (first | refine r_op rfl rfl rfl rfl ?_ | refine r_skip rfl rfl rfl ?_ | refine .done ?_ | refine r_seq (T := TT) ?_ | refine r_region (T := TT) rfl ?_ | refine r_block (T := TT) ?_ | refine r_then (T := TT) rfl ?_ | refine r_else (T := TT) rfl ?_)
    have hm := Nat.mod_lt u hv
    refine ⟨(v, u % v), ⟨gcd_step.trans hg, g2, Nat.le_trans (digs_len_mono (Nat.le_of_lt hm)) g2⟩, hm, weak ⟨rfl, rfl, rfl, trivial⟩ ⟨rfl, trivial⟩ rfl⟩
  · have hv : v = 0 := by
      have := of_decide_eq_false h
      exact digs_length_zero.1 (by omega)
    subst hv
    rw [Nat.gcd_zero_right] at hg
    refine r_exit ?_
    repeat (first | refine r_op rfl rfl rfl rfl ?_ | refine r_skip rfl rfl rfl ?_ | refine .done ?_ | refine r_seq (T := TT) ?_ | refine r_region (T := TT) rfl ?_ | refine r_block (T := TT) ?_ | refine r_then (T := TT) rfl ?_ | refine r_else (T := TT) rfl ?_)
    refine r_call (ok_r1_signed (neg := false) (xs := digs u) (Wd_digs _) (show toZ false (digs u) = ((Nat.gcd (val xs) (val ys) : Nat) : Int) by rw [toZ_d, ← hg]; rfl)) rfl rfl rfl rfl rfl rfl rfl ?_
    repeat (first | refine r_op rfl rfl rfl rfl ?_ | refine r_skip rfl rfl rfl ?_ | refine .done ?_ | refine r_seq (T := TT) ?_ | refine r_region (T := TT) rfl ?_ | refine r_block (T := TT) ?_ | refine r_then (T := TT) rfl ?_ | refine r_else (T := TT) rfl ?_)
    exact r_fin (T := TT) rfl rfl
set_option maxHeartbeats 1000000 in
theorem ok_i_GCD {na nb : Bool} {xs ys : List Nat} (hw : Wd xs) (hw' : Wd ys) (h1 : Fit xs) (h2 : Fit ys) : CallOK Tryz.prog 79 [dI na xs, dI nb ys] (.one (dZ (Nat.gcd (val xs) (val ys)))) := by
  have f1 : (digs (val xs)).length ≤ 2147483648 := by have := trim_length hw; unfold trim at this; unfold Fit at h1; omega
  have f2 : (digs (val ys)).length ≤ 2147483648 := by have := trim_length hw'; unfold trim at this; unfold Fit at h2; omega
  refine callOK_of TT_ok mixT Tryz.func79 rfl rfl (Nat.le_of_ble_eq_true rfl) ?_
  repeat (first | refine r_op rfl rfl rfl rfl ?_ | refine r_skip rfl rfl rfl ?_ | refine .done ?_ | refine r_seq (T := TT) ?_ | refine r_region (T := TT) rfl ?_ | refine r_block (T := TT) ?_ | refine r_then (T := TT) rfl ?_ | refine r_else (T := TT) rfl ?_)
  refine r_call (ok_i_trim hw) rfl rfl rfl rfl rfl rfl rfl ?_
  repeat (first | refine r_op rfl rfl rfl rfl ?_ | refine r_skip rfl rfl rfl ?_ | refine .done ?_ | refine r_seq (T := TT) ?_ | refine r_region (T := TT) rfl ?_ | refine r_block (T := TT) ?_ | refine r_then (T := TT) rfl ?_ | refine r_else (T := TT) rfl ?_)
  refine r_call (ok_i_trim hw') rfl rfl rfl rfl rfl rfl rfl ?_
  repeat (first | refine r_op rfl rfl rfl rfl ?_ | refine r_skip rfl rfl rfl ?_ | refine .done ?_ | refine r_seq (T := TT) ?_ | refine r_region (T := TT) rfl ?_ | refine r_block (T := TT) ?_ | refine r_then (T := TT) rfl ?_ | refine r_else (T := TT) rfl ?_)
  refine r_loop (Nat × Nat) (fun p => Nat.gcd p.1 p.2 = Nat.gcd (val xs) (val ys) ∧ (digs p.1).length ≤ 2147483648 ∧ (digs p.2).length ≤ 2147483648) (fun p => ⟨[(4, .box 2 0), (5, .d (dW (digs p.1))), (6, .d (dW (digs p.2)))], [(2, some [.val (.bool false), .sl 0 []])]⟩) (fun p => p.2) (val xs, val ys) ⟨rfl, f1, f2⟩ (weak ⟨rfl, rfl, rfl, trivial⟩ ⟨rfl, trivial⟩ rfl) ?_
  rintro ⟨u, v⟩ ⟨hg, g1, g2⟩
  dsimp only at hg g1 g2 ⊢
  by_cases hb : 2 < (digs v).length ∨ (2 < (digs u).length ∧ 0 < (digs v).length)
  · have hv : 0 < v := by
      rcases Nat.eq_zero_or_pos v with hv | hv
      · rw [hv, digs_zero] at hb; simp at hb
      · exact hv
    have hm := Nat.mod_lt u hv
    by_cases h2 : 2 < (digs v).length
    · refine r_seq ?_
      refine r_region rfl ?_
      iterate 2 (first | refine r_op rfl rfl rfl rfl ?_ | refine r_skip rfl rfl rfl ?_)
      refine r_eq (v' := .bool true) rfl rfl rfl rfl ?_ ?_
      · exact congrArg Value.bool (decide_eq_true (by omega))
      repeat (first | refine r_op rfl rfl rfl rfl ?_ | refine r_skip rfl rfl rfl ?_ | refine .done ?_ | refine r_seq (T := TT) ?_ | refine r_region (T := TT) rfl ?_ | refine r_block (T := TT) ?_ | refine r_then (T := TT) rfl ?_ | refine r_else (T := TT) rfl ?_)
      refine r_call (ok_i_divide g1 hv) rfl rfl rfl rfl rfl rfl rfl ?_
      repeat (first | refine r_op rfl rfl rfl rfl ?_ | refine r_skip rfl rfl rfl ?_ | refine .done ?_ | refine r_seq (T := TT) ?_ | refine r_region (T := TT) rfl ?_ | refine r_block (T := TT) ?_ | refine r_then (T := TT) rfl ?_ | refine r_else (T := TT) rfl ?_)
      exact ⟨(v, u % v), ⟨gcd_step.trans hg, g2, Nat.le_trans (digs_len_mono (Nat.le_of_lt hm)) g2⟩, hm, weak ⟨rfl, rfl, rfl, trivial⟩ ⟨rfl, trivial⟩ rfl⟩
    · have h3 : 2 < (digs u).length ∧ 0 < (digs v).length := by omega
      refine r_seq ?_
      refine r_region rfl ?_
      iterate 2 (first | refine r_op rfl rfl rfl rfl ?_ | refine r_skip rfl rfl rfl ?_)
      refine r_eq (v' := .bool false) rfl rfl rfl rfl ?_ ?_
      · exact congrArg Value.bool (decide_eq_false (by omega))
      iterate 3 (first | refine r_op rfl rfl rfl rfl ?_ | refine r_skip rfl rfl rfl ?_)
      refine r_eq (v' := .bool true) rfl rfl rfl rfl ?_ ?_
      · exact congrArg Value.bool (decide_eq_true (by omega))
      iterate 3 (first | refine r_op rfl rfl rfl rfl ?_ | refine r_skip rfl rfl rfl ?_)
      refine r_eq (v' := .bool true) rfl rfl rfl rfl ?_ ?_
      · exact congrArg Value.bool (decide_eq_true (by omega))
      repeat (first | refine r_op rfl rfl rfl rfl ?_ | refine r_skip rfl rfl rfl ?_ | refine .done ?_ | refine r_seq (T := TT) ?_ | refine r_region (T := TT) rfl ?_ | refine r_block (T := TT) ?_ | refine r_then (T := TT) rfl ?_ | refine r_else (T := TT) rfl ?_)
      refine r_call (ok_i_divide g1 hv) rfl rfl rfl rfl rfl rfl rfl ?_
      repeat (first | refine r_op rfl rfl rfl rfl ?_ | refine r_skip rfl rfl rfl ?_ | refine .done ?_ | refine r_seq (T := TT) ?_ | refine r_region (T := TT) rfl ?_ | refine r_block (T := TT) ?_ | refine r_then (T := TT) rfl ?_ | refine r_else (T := TT) rfl ?_)
      exact ⟨(v, u % v), ⟨gcd_step.trans hg, g2, Nat.le_trans (digs_len_mono (Nat.le_of_lt hm)) g2⟩, hm, weak ⟨rfl, rfl, rfl, trivial⟩ ⟨rfl, trivial⟩ rfl⟩
  · have hz : v = 0 ∨ (0 < v ∧ (digs v).length ≤ 2 ∧ (digs u).length ≤ 2) := by
      rcases Nat.eq_zero_or_pos v with hv | hv
      · exact .inl hv
      · have : 0 < (digs v).length := by
          rcases Nat.eq_zero_or_pos (digs v).length with h | h
          · have := digs_length_zero.1 h; omega
          · exact h
        exact .inr ⟨hv, by omega, by omega⟩
    rcases hz with hv | ⟨hv, hv2, hu2⟩
    · subst hv
      rw [Nat.gcd_zero_right] at hg
      have hl0 : (digs 0).length = 0 := digs_length_zero.2 rfl
      by_cases hu2 : 2 < (digs u).length
      · refine r_seq ?_
        refine r_region rfl ?_
        iterate 2 (first | refine r_op rfl rfl rfl rfl ?_ | refine r_skip rfl rfl rfl ?_)
        refine r_eq (v' := .bool false) rfl rfl rfl rfl ?_ ?_
        · exact congrArg Value.bool (decide_eq_false (by omega))
        iterate 3 (first | refine r_op rfl rfl rfl rfl ?_ | refine r_skip rfl rfl rfl ?_)
        refine r_eq (v' := .bool true) rfl rfl rfl rfl ?_ ?_
        · exact congrArg Value.bool (decide_eq_true (by omega))
        iterate 3 (first | refine r_op rfl rfl rfl rfl ?_ | refine r_skip rfl rfl rfl ?_)
        refine r_eq (v' := .bool false) rfl rfl rfl rfl ?_ ?_
        · exact congrArg Value.bool (decide_eq_false (by omega))
        repeat (first | refine r_op rfl rfl rfl rfl ?_ | refine r_skip rfl rfl rfl ?_ | refine .done ?_ | refine r_seq (T := TT) ?_ | refine r_region (T := TT) rfl ?_ | refine r_block (T := TT) ?_ | refine r_then (T := TT) rfl ?_ | refine r_else (T := TT) rfl ?_)
        refine r_then2 (T := TT) rfl ?_ ?_
        · exact (by rw [hl0]; rfl)
        repeat (first | refine r_op rfl rfl rfl rfl ?_ | refine r_skip rfl rfl rfl ?_ | refine .done ?_ | refine r_seq (T := TT) ?_ | refine r_region (T := TT) rfl ?_ | refine r_block (T := TT) ?_ | refine r_then (T := TT) rfl ?_ | refine r_else (T := TT) rfl ?_)
        refine r_call (ok_clone (Wd_digs u) (by omega)) rfl rfl rfl rfl rfl rfl rfl ?_
        repeat (first | refine r_op rfl rfl rfl rfl ?_ | refine r_skip rfl rfl rfl ?_ | refine .done ?_ | refine r_seq (T := TT) ?_ | refine r_region (T := TT) rfl ?_ | refine r_block (T := TT) ?_ | refine r_then (T := TT) rfl ?_ | refine r_else (T := TT) rfl ?_)
        refine r_call (ok_i_signed (neg := false) (xs := digs u) (Wd_digs _) (show toZ false (digs u) = ((Nat.gcd (val xs) (val ys) : Nat) : Int) by rw [toZ_d, ← hg]; rfl)) rfl rfl rfl rfl rfl rfl rfl ?_
        repeat (first | refine r_op rfl rfl rfl rfl ?_ | refine r_skip rfl rfl rfl ?_ | refine .done ?_ | refine r_seq (T := TT) ?_ | refine r_region (T := TT) rfl ?_ | refine r_block (T := TT) ?_ | refine r_then (T := TT) rfl ?_ | refine r_else (T := TT) rfl ?_)
        exact r_fin (T := TT) rfl rfl
      · refine r_seq ?_
        refine r_region rfl ?_
        iterate 2 (first | refine r_op rfl rfl rfl rfl ?_ | refine r_skip rfl rfl rfl ?_)
        refine r_eq (v' := .bool false) rfl rfl rfl rfl ?_ ?_
        · exact congrArg Value.bool (decide_eq_false (by omega))
        iterate 3 (first | refine r_op rfl rfl rfl rfl ?_ | refine r_skip rfl rfl rfl ?_)
        refine r_eq (v' := .bool false) rfl rfl rfl rfl ?_ ?_
        · exact congrArg Value.bool (decide_eq_false (by omega))
        repeat (first | refine r_op rfl rfl rfl rfl ?_ | refine r_skip rfl rfl rfl ?_ | refine .done ?_ | refine r_seq (T := TT) ?_ | refine r_region (T := TT) rfl ?_ | refine r_block (T := TT) ?_ | refine r_then (T := TT) rfl ?_ | refine r_else (T := TT) rfl ?_)
        refine r_then2 (T := TT) rfl ?_ ?_
        · exact (by rw [hl0]; rfl)
        repeat (first | refine r_op rfl rfl rfl rfl ?_ | refine r_skip rfl rfl rfl ?_ | refine .done ?_ | refine r_seq (T := TT) ?_ | refine r_region (T := TT) rfl ?_ | refine r_block (T := TT) ?_ | refine r_then (T := TT) rfl ?_ | refine r_else (T := TT) rfl ?_)
        refine r_call (ok_clone (Wd_digs u) (by omega)) rfl rfl rfl rfl rfl rfl rfl ?_
        repeat (first | refine r_op rfl rfl rfl rfl ?_ | refine r_skip rfl rfl rfl ?_ | refine .done ?_ | refine r_seq (T := TT) ?_ | refine r_region (T := TT) rfl ?_ | refine r_block (T := TT) ?_ | refine r_then (T := TT) rfl ?_ | refine r_else (T := TT) rfl ?_)
        refine r_call (ok_i_signed (neg := false) (xs := digs u) (Wd_digs _) (show toZ false (digs u) = ((Nat.gcd (val xs) (val ys) : Nat) : Int) by rw [toZ_d, ← hg]; rfl)) rfl rfl rfl rfl rfl rfl rfl ?_
        repeat (first | refine r_op rfl rfl rfl rfl ?_ | refine r_skip rfl rfl rfl ?_ | refine .done ?_ | refine r_seq (T := TT) ?_ | refine r_region (T := TT) rfl ?_ | refine r_block (T := TT) ?_ | refine r_then (T := TT) rfl ?_ | refine r_else (T := TT) rfl ?_)
        exact r_fin (T := TT) rfl rfl
    · have hvl : 0 < (digs v).length := by
        rcases Nat.eq_zero_or_pos (digs v).length with h | h
        · have := digs_length_zero.1 h; omega
        · exact h
      have hu64 : u < 18446744073709551616 := by have := lt_of_digs hu2; simpa using this
      have hv64 : v < 18446744073709551616 := by have := lt_of_digs hv2; simpa using this
      refine r_seq ?_
      refine r_region rfl ?_
      iterate 2 (first | refine r_op rfl rfl rfl rfl ?_ | refine r_skip rfl rfl rfl ?_)
      refine r_eq (v' := .bool false) rfl rfl rfl rfl ?_ ?_
      · exact congrArg Value.bool (decide_eq_false (by omega))
      iterate 3 (first | refine r_op rfl rfl rfl rfl ?_ | refine r_skip rfl rfl rfl ?_)
      refine r_eq (v' := .bool false) rfl rfl rfl rfl ?_ ?_
      · exact congrArg Value.bool (decide_eq_false (by omega))
      repeat (first | refine r_op rfl rfl rfl rfl ?_ | refine r_skip rfl rfl rfl ?_ | refine .done ?_ | refine r_seq (T := TT) ?_ | refine r_region (T := TT) rfl ?_ | refine r_block (T := TT) ?_ | refine r_then (T := TT) rfl ?_ | refine r_else (T := TT) rfl ?_)
      refine r_else2 (T := TT) rfl ?_ ?_
      · exact beq_eq_false_iff_ne.2 (by omega)
      repeat (first | refine r_op rfl rfl rfl rfl ?_ | refine r_skip rfl rfl rfl ?_ | refine .done ?_ | refine r_seq (T := TT) ?_ | refine r_region (T := TT) rfl ?_ | refine r_block (T := TT) ?_ | refine r_then (T := TT) rfl ?_ | refine r_else (T := TT) rfl ?_)
      refine r_call (ok_toUint (Wd_digs u) hu2) rfl rfl rfl rfl rfl rfl rfl ?_
      repeat (first | refine r_op rfl rfl rfl rfl ?_ | refine r_skip rfl rfl rfl ?_ | refine .done ?_ | refine r_seq (T := TT) ?_ | refine r_region (T := TT) rfl ?_ | refine r_block (T := TT) ?_ | refine r_then (T := TT) rfl ?_ | refine r_else (T := TT) rfl ?_)
      refine r_call (ok_toUint (Wd_digs v) hv2) rfl rfl rfl rfl rfl rfl rfl ?_
      repeat (first | refine r_op rfl rfl rfl rfl ?_ | refine r_skip rfl rfl rfl ?_ | refine .done ?_ | refine r_seq (T := TT) ?_ | refine r_region (T := TT) rfl ?_ | refine r_block (T := TT) ?_ | refine r_then (T := TT) rfl ?_ | refine r_else (T := TT) rfl ?_)
      rw [val_digs, val_digs]
      refine r_loop (Nat × Nat) (fun p => Nat.gcd p.1 p.2 = Nat.gcd (val xs) (val ys) ∧ p.1 < 18446744073709551616 ∧ p.2 < 18446744073709551616) (fun p => ⟨[(4, .box 2 0), (9, .d (dN .u64 p.1)), (10, .d (dN .u64 p.2))], [(2, some [.val (.bool false), .sl 0 []])]⟩) (fun p => p.2) (u, v) ⟨hg, hu64, hv64⟩ (weak ⟨rfl, rfl, rfl, trivial⟩ ⟨rfl, trivial⟩ rfl) ?_
      clear hg hu64 hv64 g1 g2 hu2 hv2 hvl hv hb
      clear u v
      rintro ⟨u, v⟩ ⟨hg, hu, hv⟩
      dsimp only at hg hu hv ⊢
      rcases Nat.eq_zero_or_pos v with h0 | h0
      · subst h0
        rw [Nat.gcd_zero_right] at hg
        repeat (first | refine r_op rfl rfl rfl rfl ?_ | refine r_skip rfl rfl rfl ?_ | refine .done ?_ | refine r_seq (T := TT) ?_ | refine r_region (T := TT) rfl ?_ | refine r_block (T := TT) ?_ | refine r_then (T := TT) rfl ?_ | refine r_else (T := TT) rfl ?_)
        refine r_call (ok_fromUint u hu) rfl rfl rfl rfl rfl rfl rfl ?_
        repeat (first | refine r_op rfl rfl rfl rfl ?_ | refine r_skip rfl rfl rfl ?_ | refine .done ?_ | refine r_seq (T := TT) ?_ | refine r_region (T := TT) rfl ?_ | refine r_block (T := TT) ?_ | refine r_then (T := TT) rfl ?_ | refine r_else (T := TT) rfl ?_)
        refine r_call (ok_i_signed (neg := false) (xs := digs u) (Wd_digs _) (show toZ false (digs u) = ((Nat.gcd (val xs) (val ys) : Nat) : Int) by rw [toZ_d, ← hg]; rfl)) rfl rfl rfl rfl rfl rfl rfl ?_
        repeat (first | refine r_op rfl rfl rfl rfl ?_ | refine r_skip rfl rfl rfl ?_ | refine .done ?_ | refine r_seq (T := TT) ?_ | refine r_region (T := TT) rfl ?_ | refine r_block (T := TT) ?_ | refine r_then (T := TT) rfl ?_ | refine r_else (T := TT) rfl ?_)
        exact r_fin (T := TT) rfl rfl
      · refine r_seq ?_
        refine r_seq ?_
        refine r_region rfl ?_
        iterate 1 (first | refine r_op rfl rfl rfl rfl ?_ | refine r_skip rfl rfl rfl ?_)
        refine r_eq (v' := .bool true) rfl rfl rfl rfl ?_ ?_
        · exact congrArg Value.bool (bne_iff_ne.2 (by omega))
        repeat (first | refine r_op rfl rfl rfl rfl ?_ | refine r_skip rfl rfl rfl ?_ | refine .done ?_ | refine r_seq (T := TT) ?_ | refine r_region (T := TT) rfl ?_ | refine r_block (T := TT) ?_ | refine r_then (T := TT) rfl ?_ | refine r_else (T := TT) rfl ?_)
        refine r_bin rfl rfl rfl rfl ?_ rfl rfl (binV_rem (by omega)) ?_
        · rfl
        repeat (first | refine r_op rfl rfl rfl rfl ?_ | refine r_skip rfl rfl rfl ?_ | refine .done ?_ | refine r_seq (T := TT) ?_ | refine r_region (T := TT) rfl ?_ | refine r_block (T := TT) ?_ | refine r_then (T := TT) rfl ?_ | refine r_else (T := TT) rfl ?_)
        have hm := Nat.mod_lt u h0
        refine ⟨(v, u % v), ⟨gcd_step.trans hg, hv, by dsimp only; omega⟩, hm, weak ⟨rfl, rfl, ?_, trivial⟩ ⟨rfl, trivial⟩ rfl⟩
        show TV.d (.leaf (.val (.int .u64 ((u : Int).tmod v)))) = TV.d (dN .u64 ((u % v : Nat) : Int))
        rw [Int.ofNat_tmod]
        rfl
end Go.Proofs.YtecjnnhkbmkemaaGreatDoor
