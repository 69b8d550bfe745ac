/- Plain laws on lists of words: comparison, sums, differences, products. No program in sight. -/
import Derived.Test.YtdmijpechdaniaaW
namespace Go.Proofs.Ytdmijpechdaniaa

def ordI (a b : Int) : Int := if a < b then -1 else if b < a then 1 else 0

/-- how two lists of words compare: by length, then by value -/
def cmpW (xs ys : List Nat) : Int := if xs.length = ys.length then ordI (val xs) (val ys) else ordI xs.length ys.length

theorem val_nil : val [] = 0 := rfl
theorem val_take_succ (xs : List Nat) (i : Nat) : val (xs.take (i + 1)) = val (xs.take i) + 4294967296 ^ i * xs.getD i 0 := by
  by_cases h : i < xs.length
  · rw [List.take_succ_eq_append_getElem h, val_append, List.length_take, Nat.min_eq_left (by omega), List.getD_eq_getElem?_getD, List.getElem?_eq_getElem h]
    simp [val]
  · rw [List.take_of_length_le (by omega), List.take_of_length_le (by omega), List.getD_eq_getElem?_getD, List.getElem?_eq_none (by omega)]
    simp
theorem val_split (xs : List Nat) (k : Nat) (h : k ≤ xs.length) : val xs = val (xs.take k) + 4294967296 ^ k * val (xs.drop k) := by
  have := val_append (xs.take k) (xs.drop k)
  rw [List.take_append_drop, List.length_take, Nat.min_eq_left h] at this
  exact this
theorem val_take_le (xs : List Nat) (k : Nat) : val (xs.take k) ≤ val xs := by
  by_cases h : k ≤ xs.length
  · rw [val_split xs k h]; omega
  · rw [List.take_of_length_le (by omega)]; exact Nat.le_refl _
theorem val_take_of_lt {xs : List Nat} {k : Nat} (h : val xs < 4294967296 ^ k) : val (xs.take k) = val xs := by
  by_cases hk : k ≤ xs.length
  · have h1 := val_split xs k hk
    rcases Nat.eq_zero_or_pos (val (xs.drop k)) with h0 | h0
    · rw [h1, h0]; simp
    · have := Nat.mul_le_mul_left (4294967296 ^ k) h0
      omega
  · rw [List.take_of_length_le (by omega)]
theorem val_take_lt {xs : List Nat} (hw : Wd xs) (k : Nat) : val (xs.take k) < 4294967296 ^ k := by
  have h1 := val_lt (hw.take k)
  refine Nat.lt_of_lt_of_le h1 (Nat.pow_le_pow_right (by omega) ?_)
  rw [List.length_take]; omega

theorem drop_step (xs : List Nat) (k : Nat) (hk : 0 < k) (h : k ≤ xs.length) : xs.drop (k - 1) = xs.getD (k - 1) 0 :: xs.drop k := by
  have h1 : k - 1 < xs.length := by omega
  rw [List.drop_eq_getElem_cons h1, List.getD_eq_getElem?_getD, List.getElem?_eq_getElem h1]
  simp [show k - 1 + 1 = k by omega]

theorem val_lt_of_top {xs ys : List Nat} (hx : Wd xs) {k : Nat} (hk : 0 < k) (h1 : k ≤ xs.length) (h2 : k ≤ ys.length) (hd : xs.drop k = ys.drop k)
    (hlt : xs.getD (k - 1) 0 < ys.getD (k - 1) 0) : val xs < val ys := by
  rw [val_split xs (k - 1) (by omega), val_split ys (k - 1) (by omega), drop_step xs k hk h1, drop_step ys k hk h2, ← hd]
  simp only [val]
  have h3 := val_take_lt hx (k - 1)
  have h4 : 4294967296 ^ (k - 1) * (xs.getD (k - 1) 0 + 1 + 4294967296 * val (xs.drop k)) ≤ 4294967296 ^ (k - 1) * (ys.getD (k - 1) 0 + 4294967296 * val (xs.drop k)) :=
    Nat.mul_le_mul_left _ (by omega)
  have h5 : 4294967296 ^ (k - 1) * (xs.getD (k - 1) 0 + 1 + 4294967296 * val (xs.drop k)) = 4294967296 ^ (k - 1) * (xs.getD (k - 1) 0 + 4294967296 * val (xs.drop k)) + 4294967296 ^ (k - 1) := by
    rw [show xs.getD (k - 1) 0 + 1 + 4294967296 * val (xs.drop k) = (xs.getD (k - 1) 0 + 4294967296 * val (xs.drop k)) + 1 by omega, Nat.mul_add, Nat.mul_one]
  omega

theorem ordI_lt {a b : Int} (h : a < b) : ordI a b = -1 := by unfold ordI; rw [if_pos h]
theorem ordI_gt {a b : Int} (h : b < a) : ordI a b = 1 := by unfold ordI; rw [if_neg (by omega), if_pos h]
theorem ordI_eq (a : Int) : ordI a a = 0 := by unfold ordI; simp
theorem ordI_range (a b : Int) : -1 ≤ ordI a b ∧ ordI a b ≤ 1 := by unfold ordI; split <;> (try split) <;> omega
theorem cmpW_range (xs ys : List Nat) : -1 ≤ cmpW xs ys ∧ cmpW xs ys ≤ 1 := by unfold cmpW; split <;> exact ordI_range _ _

/-- between two lists that do not end in zeros the comparison is that of the values -/
theorem cmpW_digs (a b : Nat) : cmpW (digs a) (digs b) = ordI a b := by
  have key : ∀ a b : Nat, (digs a).length < (digs b).length → a < b := by
    intro a b h
    rcases Nat.lt_or_ge a b with h1 | h1
    · exact h1
    · exfalso
      have h2 := lt_of_digs (n := a) (Nat.le_refl (digs a).length)
      have h3 := digs_length_le (n := b) (k := (digs a).length) (by omega)
      omega
  unfold cmpW
  rw [val_digs, val_digs]
  split
  · rfl
  · rename_i hne
    rcases Nat.lt_or_ge (digs a).length (digs b).length with h | h
    · rw [ordI_lt (by omega), ordI_lt (by have := key a b h; omega)]
    · have h' : (digs b).length < (digs a).length := by omega
      rw [ordI_gt (by omega), ordI_gt (by have := key b a h'; omega)]

theorem val_inj {xs ys : List Nat} (hx : Wd xs) (hy : Wd ys) (hl : xs.length = ys.length) (h : val xs = val ys) : xs = ys := by
  induction xs generalizing ys with
  | nil => cases ys with
    | nil => rfl
    | cons y ys => simp at hl
  | cons x xs ih =>
    cases ys with
    | nil => simp at hl
    | cons y ys =>
      simp only [val] at h
      have h1 := hx.head
      have h2 := hy.head
      rw [show x = y by omega, ih hx.tail hy.tail (by simpa using hl) (by omega)]
theorem cmpW_eq_zero {xs ys : List Nat} (hx : Wd xs) (hy : Wd ys) : cmpW xs ys = 0 ↔ xs = ys := by
  constructor
  · intro h
    unfold cmpW ordI at h
    split at h
    · rename_i hl
      refine val_inj hx hy hl ?_
      split at h
      · omega
      · split at h <;> omega
    · exfalso
      split at h
      · omega
      · split at h <;> omega
  · rintro rfl
    unfold cmpW
    rw [if_pos rfl, ordI_eq]

theorem val_set (zs : List Nat) (i x : Nat) (h : i < zs.length) : val (zs.set i x) + 4294967296 ^ i * zs.getD i 0 = val zs + 4294967296 ^ i * x := by
  induction zs generalizing i with
  | nil => simp at h
  | cons z zs ih =>
    cases i with
    | zero => simp [val]; omega
    | succ i =>
      have := ih i (by simpa using h)
      simp only [List.set_cons_succ, val, List.getD_cons_succ, Nat.pow_succ]
      have e1 : 4294967296 ^ i * 4294967296 * zs.getD i 0 = 4294967296 * (4294967296 ^ i * zs.getD i 0) := by rw [Nat.mul_comm (4294967296 ^ i), Nat.mul_assoc]
      have e2 : 4294967296 ^ i * 4294967296 * x = 4294967296 * (4294967296 ^ i * x) := by rw [Nat.mul_comm (4294967296 ^ i), Nat.mul_assoc]
      rw [e1, e2]
      omega
theorem val_replicate (n : Nat) : val (List.replicate n 0) = 0 := by
  induction n with
  | zero => rfl
  | succ n ih => rw [List.replicate_succ, val, ih]
theorem getD_replicate (n i : Nat) : (List.replicate n 0).getD i 0 = 0 := by
  rw [List.getD_eq_getElem?_getD, List.getElem?_replicate]
  split <;> rfl
theorem getD_set_ne {zs : List Nat} {i j x : Nat} (h : i ≠ j) : (zs.set i x).getD j 0 = zs.getD j 0 := by
  rw [List.getD_eq_getElem?_getD, List.getD_eq_getElem?_getD, List.getElem?_set_ne h]
theorem getD_set_eq {zs : List Nat} {i x : Nat} (h : i < zs.length) : (zs.set i x).getD i 0 = x := by
  rw [List.getD_eq_getElem?_getD, List.getElem?_set_self h]; rfl
theorem pow_succ_B (i : Nat) : 4294967296 ^ (i + 1) = 4294967296 * 4294967296 ^ i := by rw [Nat.pow_succ, Nat.mul_comm]

/-! ### one step of a sum -/
theorem plus_step {xs ys zs : List Nat} {i c : Nat} (hz : zs.length = i) (h : val zs + 4294967296 ^ i * c = val (xs.take i) + val (ys.take i)) :
    val (zs ++ [(c + xs.getD i 0 + ys.getD i 0) % 4294967296]) + 4294967296 ^ (i + 1) * ((c + xs.getD i 0 + ys.getD i 0) / 4294967296) = val (xs.take (i + 1)) + val (ys.take (i + 1)) := by
  rw [val_append, hz, val_take_succ, val_take_succ, pow_succ_B]
  generalize ht : c + xs.getD i 0 + ys.getD i 0 = t
  have e : t = t % 4294967296 + 4294967296 * (t / 4294967296) := by omega
  have e2 : 4294967296 ^ i * t = 4294967296 ^ i * (t % 4294967296) + 4294967296 * 4294967296 ^ i * (t / 4294967296) := by
    conv => lhs; rw [e]
    rw [Nat.mul_add]; congr 1; rw [Nat.mul_comm 4294967296 (4294967296 ^ i), Nat.mul_assoc]
  have e3 : 4294967296 ^ i * t = 4294967296 ^ i * c + 4294967296 ^ i * xs.getD i 0 + 4294967296 ^ i * ys.getD i 0 := by rw [← ht, Nat.mul_add, Nat.mul_add]
  simp only [val, Nat.mul_zero, Nat.add_zero]
  omega

theorem plus_set {xs ys zs : List Nat} {i c : Nat} (hi : i < zs.length) (hz : zs.getD i 0 = 0) (h : val zs + 4294967296 ^ i * c = val (xs.take i) + val (ys.take i)) :
    val (zs.set i ((c + xs.getD i 0 + ys.getD i 0) % 4294967296)) + 4294967296 ^ (i + 1) * ((c + xs.getD i 0 + ys.getD i 0) / 4294967296) = val (xs.take (i + 1)) + val (ys.take (i + 1)) := by
  have hs := val_set zs i ((c + xs.getD i 0 + ys.getD i 0) % 4294967296) hi
  rw [hz] at hs
  rw [val_take_succ, val_take_succ, pow_succ_B]
  generalize ht : c + xs.getD i 0 + ys.getD i 0 = t at *
  have e : t = t % 4294967296 + 4294967296 * (t / 4294967296) := by omega
  have e2 : 4294967296 ^ i * t = 4294967296 ^ i * (t % 4294967296) + 4294967296 * 4294967296 ^ i * (t / 4294967296) := by
    conv => lhs; rw [e]
    rw [Nat.mul_add]; congr 1; rw [Nat.mul_comm 4294967296 (4294967296 ^ i), Nat.mul_assoc]
  have e3 : 4294967296 ^ i * t = 4294967296 ^ i * c + 4294967296 ^ i * xs.getD i 0 + 4294967296 ^ i * ys.getD i 0 := by rw [← ht, Nat.mul_add, Nat.mul_add]
  omega
theorem last_set {zs : List Nat} {i c V : Nat} (hi : i < zs.length) (hz : zs.getD i 0 = 0) (h : val zs + 4294967296 ^ i * c = V) : val (zs.set i c) = V := by
  have hs := val_set zs i c hi
  rw [hz] at hs
  omega

/-! ### one step of a difference -/
theorem minus_step {xs ys zs : List Nat} {i b d b' : Nat} (hi : i < zs.length) (hz : zs.getD i 0 = 0)     (h0 : val zs + val (ys.take i) = val (xs.take i) + 4294967296 ^ i * b)
    (hd : d + ys.getD i 0 + b = xs.getD i 0 + 4294967296 * b') :
    val (zs.set i d) + val (ys.take (i + 1)) = val (xs.take (i + 1)) + 4294967296 ^ (i + 1) * b' := by
  have hs := val_set zs i d hi
  rw [hz] at hs
  rw [val_take_succ, val_take_succ, pow_succ_B]
  have e := congrArg (fun t => 4294967296 ^ i * t) hd
  simp only [Nat.mul_add] at e
  have e2 : 4294967296 ^ i * (4294967296 * b') = 4294967296 * 4294967296 ^ i * b' := by rw [← Nat.mul_assoc, Nat.mul_comm (4294967296 ^ i)]
  omega

theorem minus_end {xs ys zs : List Nat} {n b : Nat} (hzw : Wd zs) (hzl : zs.length = n) (hxl : xs.length = n) (hle : val ys ≤ val xs) (hxw : Wd xs)
    (h : val zs + val (ys.take n) = val (xs.take n) + 4294967296 ^ n * b) : val zs = val xs - val ys := by
  have h1 := val_lt hxw
  rw [hxl] at h1
  have h2 : val (ys.take n) = val ys := val_take_of_lt (by omega)
  have h3 : xs.take n = xs := List.take_of_length_le (by omega)
  have h4 := val_lt hzw
  rw [hzl] at h4
  rw [h2, h3] at h
  rcases Nat.eq_zero_or_pos b with hb | hb
  · subst hb; omega
  · have := Nat.mul_le_mul_left (4294967296 ^ n) hb
    omega

/-! ### products -/
theorem times_inner {zs ys : List Nat} {i k c x V : Nat} (hk : i + k < zs.length)
    (h : val zs + 4294967296 ^ (i + k) * c = V + 4294967296 ^ i * (x * val (ys.take k))) :
    val (zs.set (i + k) ((c + x * ys.getD k 0 + zs.getD (i + k) 0) % 4294967296)) + 4294967296 ^ (i + k + 1) * ((c + x * ys.getD k 0 + zs.getD (i + k) 0) / 4294967296) = V + 4294967296 ^ i * (x * val (ys.take (k + 1))) := by
  generalize ht : c + x * ys.getD k 0 + zs.getD (i + k) 0 = t
  have hs := val_set zs (i + k) (t % 4294967296) hk
  rw [val_take_succ, pow_succ_B]
  have e : t = t % 4294967296 + 4294967296 * (t / 4294967296) := by omega
  have e2 : 4294967296 ^ (i + k) * t = 4294967296 ^ (i + k) * (t % 4294967296) + 4294967296 * 4294967296 ^ (i + k) * (t / 4294967296) := by
    conv => lhs; rw [e]
    rw [Nat.mul_add]; congr 1; rw [Nat.mul_comm 4294967296 (4294967296 ^ (i + k)), Nat.mul_assoc]
  have e3 : 4294967296 ^ (i + k) * t = 4294967296 ^ (i + k) * c + 4294967296 ^ (i + k) * (x * ys.getD k 0) + 4294967296 ^ (i + k) * zs.getD (i + k) 0 := by rw [← ht, Nat.mul_add, Nat.mul_add]
  have e4 : 4294967296 ^ i * (x * (val (ys.take k) + 4294967296 ^ k * ys.getD k 0)) = 4294967296 ^ i * (x * val (ys.take k)) + 4294967296 ^ (i + k) * (x * ys.getD k 0) := by
    rw [Nat.pow_add, Nat.mul_add, Nat.mul_add]
    congr 1
    rw [Nat.mul_left_comm x (4294967296 ^ k) (ys.getD k 0), ← Nat.mul_assoc (4294967296 ^ i) (4294967296 ^ k)]
  omega
theorem times_outer {zs xs ys : List Nat} {i c : Nat} (hi : i + ys.length < zs.length) (hz : zs.getD (i + ys.length) 0 = 0)
    (h : val zs + 4294967296 ^ (i + ys.length) * c = val (xs.take i) * val ys + 4294967296 ^ i * (xs.getD i 0 * val (ys.take ys.length))) :
    val (zs.set (i + ys.length) c) = val (xs.take (i + 1)) * val ys := by
  have hs := val_set zs (i + ys.length) c hi
  rw [hz] at hs
  rw [List.take_of_length_le (Nat.le_refl _)] at h
  rw [val_take_succ, Nat.add_mul]
  have e : 4294967296 ^ i * (xs.getD i 0 * val ys) = 4294967296 ^ i * xs.getD i 0 * val ys := by rw [Nat.mul_assoc]
  omega
theorem mul_carry {x y z c : Nat} (hx : x < 4294967296) (hy : y < 4294967296) (hz : z < 4294967296) (hc : c < 4294967296) : c + x * y + z < 18446744073709551616 ∧ (c + x * y + z) / 4294967296 < 4294967296 := by
  have h : x * y ≤ 4294967295 * 4294967295 := Nat.mul_le_mul (by omega) (by omega)
  omega

end Go.Proofs.Ytdmijpechdaniaa
