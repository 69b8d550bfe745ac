/- Nine digits at a time: plain law of the program's Format. -/
import Derived.Test.YtecjnnhkbmkemaaGreatDoorPPrs
import Derived.Lib.ItoaNum
namespace Go.Proofs.YtecjnnhkbmkemaaGreatDoor
def dk : Nat → Nat → List UInt8
  | 0, _ => []
  | k + 1, c => dk k (c / 10) ++ [dg (c % 10)]
def dd (c : Nat) : List UInt8 := if c = 0 then [48] else dec c
theorem dec_split (k m c : Nat) (hm : 0 < m) (hc : c < 10 ^ k) : dec (m * 10 ^ k + c) = dec m ++ dk k c := by
  induction k generalizing c with
  | zero => simp at hc; subst hc; simp [dk]
  | succ k ih =>
    rw [Nat.pow_succ] at hc
    have hp : 0 < 10 ^ k := Nat.pow_pos (by decide)
    have hmp : 0 < m * 10 ^ k := Nat.mul_pos hm hp
    have e : m * 10 ^ (k + 1) + c = 10 * (m * 10 ^ k) + c := by rw [Nat.pow_succ, ← Nat.mul_assoc, Nat.mul_comm]
    rw [e, dec_pos (by omega), show (10 * (m * 10 ^ k) + c) / 10 = m * 10 ^ k + c / 10 by omega, show (10 * (m * 10 ^ k) + c) % 10 = c % 10 by omega, ih (c / 10) (by omega), dk, List.append_assoc]
theorem dk_zero (k : Nat) : dk k 0 = List.replicate k 48 := by
  induction k with
  | zero => rfl
  | succ k ih => rw [dk, Nat.zero_div, ih, List.replicate_succ']; rfl
theorem dd_small {c : Nat} (h : c < 10) : dd c = [dg c] := by
  unfold dd
  by_cases h0 : c = 0
  · subst h0; rfl
  · rw [if_neg h0, dec_pos h0, show c / 10 = 0 by omega, dec_zero, show c % 10 = c by omega]; rfl
theorem dd_big {c : Nat} (h : 10 ≤ c) : dd c = dd (c / 10) ++ [dg (c % 10)] := by
  unfold dd
  rw [if_neg (by omega), if_neg (by omega), dec_pos (by omega)]
theorem dk_dd (k : Nat) : ∀ c, c < 10 ^ (k + 1) → (dd c).length ≤ k + 1 ∧ dk (k + 1) c = List.replicate (k + 1 - (dd c).length) 48 ++ dd c := by
  induction k with
  | zero =>
    intro c hc
    have : c < 10 := by simpa using hc
    rw [dd_small this, dk, dk, show c % 10 = c by omega]
    exact ⟨Nat.le_refl _, rfl⟩
  | succ k ih =>
    intro c hc
    by_cases h : c < 10
    · rw [dd_small h, dk, show c / 10 = 0 by omega, dk_zero, show c % 10 = c by omega]
      exact ⟨by simp, by simp⟩
    · rw [Nat.pow_succ] at hc
      obtain ⟨h1, h2⟩ := ih (c / 10) (by omega)
      rw [dd_big (by omega), dk, h2, List.length_append, List.length_singleton]
      refine ⟨by omega, ?_⟩
      rw [show k + 1 + 1 - ((dd (c / 10)).length + 1) = k + 1 - (dd (c / 10)).length by omega, List.append_assoc]
theorem decDigits_dd (u : Nat) : Lib.decDigits u = dd u := by
  induction u using Nat.strongRecOn with
  | _ u ih =>
    by_cases h : u < 10
    · rw [Lib.decDigits, dif_pos h, dd_small h]; rfl
    · rw [Lib.decDigits, dif_neg h, dd_big (by omega), ih _ (by omega)]; rfl
def pad9 (c : Nat) : List UInt8 := List.replicate (9 - (dd c).length) 48 ++ dd c
theorem dec_split9 (m c : Nat) (hm : 0 < m) (hc : c < 1000000000) : dec (m * 1000000000 + c) = dec m ++ pad9 c := by
  have h := dec_split 9 m c hm (by simpa using hc)
  rw [show (10 : Nat) ^ 9 = 1000000000 from rfl] at h
  rw [h, (dk_dd 8 c (by simpa using hc)).2]
  rfl
theorem dd_len {c : Nat} (hc : c < 1000000000) : 1 ≤ (dd c).length ∧ (dd c).length ≤ 9 := by
  refine ⟨?_, (dk_dd 8 c (by simpa using hc)).1⟩
  unfold dd
  by_cases h0 : c = 0
  · rw [if_pos h0]; exact Nat.le_refl _
  · rw [if_neg h0, dec_pos h0]; simp
def ch (n : Nat) : List Nat := if _h : n = 0 then [] else n % 1000000000 :: ch (n / 1000000000)
termination_by n
decreasing_by omega
theorem ch_zero : ch 0 = [] := by rw [ch]; simp
theorem ch_pos {n : Nat} (h : n ≠ 0) : ch n = n % 1000000000 :: ch (n / 1000000000) := by rw [ch]; simp [h]
def txt : List Nat → List UInt8
  | [] => []
  | c :: r => dd c ++ r.flatMap pad9
theorem txt_snoc {l : List Nat} (h : l ≠ []) (c : Nat) : txt (l ++ [c]) = txt l ++ pad9 c := by
  cases l with
  | nil => exact absurd rfl h
  | cons a r => simp [txt, List.flatMap_append]
theorem ch_len : ∀ (k n : Nat), n < 1000000000 ^ k → (ch n).length ≤ k
  | 0, n, h => by simp at h; subst h; rw [ch_zero]; simp
  | k + 1, n, h => by
    by_cases h0 : n = 0
    · subst h0; rw [ch_zero]; simp
    · rw [ch_pos h0]
      have := ch_len k (n / 1000000000) (by rw [Nat.pow_succ] at h; omega)
      simp; omega
theorem ch_lt (n : Nat) : ∀ c ∈ ch n, c < 1000000000 := by
  induction n using Nat.strongRecOn with
  | _ n ih =>
    by_cases h : n = 0
    · subst h; rw [ch_zero]; simp
    · rw [ch_pos h]
      intro c hc
      rcases List.mem_cons.1 hc with rfl | hc
      · omega
      · exact ih _ (by omega) c hc
theorem ch_len_words {xs : List Nat} (hw : Wd xs) : (ch (val xs)).length ≤ 2 * xs.length := by
  refine ch_len _ _ (Nat.lt_of_lt_of_le (val_lt hw) ?_)
  rw [Nat.pow_mul]
  exact Nat.pow_le_pow_left (by decide) _
theorem ch_ne {n : Nat} (h : n ≠ 0) : ch n ≠ [] := by rw [ch_pos h]; simp
theorem txt_ch (n : Nat) : txt (ch n).reverse = dec n := by
  induction n using Nat.strongRecOn with
  | _ n ih =>
    by_cases h : n = 0
    · subst h; rw [ch_zero, dec_zero]; rfl
    · rw [ch_pos h, List.reverse_cons]
      by_cases h1 : n / 1000000000 = 0
      · rw [h1, ch_zero]
        have : n % 1000000000 = n := by omega
        rw [this]
        show dd n ++ [] = _
        rw [List.append_nil]
        unfold dd
        rw [if_neg h]
      · rw [txt_snoc (by simpa using ch_ne h1), ih _ (by omega) , ← dec_split9 _ _ (by omega) (by omega)]
        congr 1
        omega
end Go.Proofs.YtecjnnhkbmkemaaGreatDoor
