/- DivMod of the program: the quotient rounded down, and the remainder. -/
import Derived.Test.YtdmijpechdaniaaDivMod2
namespace Go.Proofs.Ytdmijpechdaniaa
open Go.RowKit

theorem toZ_d (s : Bool) (k : Nat) : toZ s (digs k) = if s then -(k : Int) else k := by unfold toZ; rw [val_digs]
theorem fd {x y q r : Int} (h : x = q * y + r) (hr : (0 ≤ r ∧ r < y) ∨ (y < r ∧ r ≤ 0)) : x.fdiv y = q ∧ x.fmod y = r := by
  rcases hr with ⟨h0, h1⟩ | ⟨h0, h1⟩
  · exact (Int.fdiv_fmod_unique (by omega)).2 ⟨by rw [h, Int.mul_comm]; omega, h0, h1⟩
  · exact (Int.fdiv_fmod_unique' (by omega)).2 ⟨by rw [h, Int.mul_comm]; omega, h0, h1⟩

theorem i_DivMod (va vb : Value) (na nb : Bool) (xs ys : List Nat) (w : World) (ha : IntR w va na xs) (hb : IntR w vb nb ys) (h1 : xs.length ≤ 2147483648) (h2 : ys.length ≤ 2147483648)
    (hok : DivOk (val xs) (val ys)) (hy0 : val ys ≠ 0) :
    Calls Try.prog 17 #[va, vb] w (RetDM ((toZ na xs).fdiv (toZ nb ys)) ((toZ na xs).fmod (toZ nb ys)) w) := by
  have hd := Nat.div_add_mod (val xs) (val ys)
  have hm := Nat.mod_lt (val xs) (Nat.pos_of_ne_zero hy0)
  have hd' : (val xs : Int) = (val ys : Int) * (val xs / val ys : Nat) + (val xs % val ys : Nat) := by exact_mod_cast hd.symm
  by_cases hn : na = nb
  · have hf : (toZ na xs).fdiv (toZ nb ys) = toZ false (digs (val xs / val ys)) ∧ (toZ na xs).fmod (toZ nb ys) = toZ nb (digs (val xs % val ys)) := by
      rw [toZ_d, toZ_d]
      unfold toZ
      subst hn
      generalize val xs / val ys = Q at *
      generalize val xs % val ys = R at *
      cases na
      · exact fd (by simp only [Bool.false_eq_true, if_false]; rw [hd', Int.mul_comm]) (.inl (by simp; omega))
      · exact fd (by simp only [Bool.false_eq_true, if_true, if_false]; rw [hd', Int.mul_neg, Int.mul_comm]; omega) (.inr (by simp; omega))
    exact i_DivMod_eq va vb na nb xs ys w ha hb hok hy0 hn _ _ hf.1.symm hf.2.symm
  · have hn' : nb = !na := by cases na <;> cases nb <;> simp_all
    by_cases hr0 : val xs % val ys = 0
    · have hf : (toZ na xs).fdiv (toZ nb ys) = toZ true (digs (val xs / val ys)) ∧ (toZ na xs).fmod (toZ nb ys) = toZ nb (digs (val xs % val ys)) := by
        rw [toZ_d, toZ_d]
        unfold toZ
        subst hn'
        rw [hr0] at hd' ⊢
        generalize val xs / val ys = Q at *
        cases na
        · exact fd (by simp only [Bool.false_eq_true, if_true, if_false, Bool.not_false]; rw [hd', Int.neg_mul_neg, Int.mul_comm]; simp) (.inr (by simp; omega))
        · exact fd (by simp only [Bool.false_eq_true, if_true, if_false, Bool.not_true]; rw [hd', Int.neg_mul, Int.mul_comm]; simp) (.inl (by simp; omega))
      exact i_DivMod_nz va vb na nb xs ys w ha hb hok hy0 hn' hr0 _ _ hf.1.symm hf.2.symm
    · have hf : (toZ na xs).fdiv (toZ nb ys) = toZ true (digs (val xs / val ys + 1)) ∧ (toZ na xs).fmod (toZ nb ys) = toZ nb (digs (val ys - val xs % val ys)) := by
        rw [toZ_d, toZ_d]
        unfold toZ
        subst hn'
        generalize val xs / val ys = Q at *
        generalize val xs % val ys = R at *
        generalize val ys = b at *
        have e : ((b - R : Nat) : Int) = (b : Int) - R := by omega
        have e1 : ((Q + 1 : Nat) : Int) = (Q : Int) + 1 := by omega
        rw [e, e1]
        have e2 : ((Q : Int) + 1) * b = b * Q + b := by rw [Int.add_mul, Int.one_mul, Int.mul_comm]
        cases na
        · exact fd (by simp only [Bool.false_eq_true, if_true, if_false, Bool.not_false]; rw [hd', Int.neg_mul_neg, e2]; omega) (.inr (by simp; omega))
        · exact fd (by simp only [Bool.false_eq_true, if_true, if_false, Bool.not_true]; rw [hd', Int.neg_mul, e2]; omega) (.inl (by simp; omega))
      exact i_DivMod_adj va vb na nb xs ys w ha hb hok hy0 hn' hr0 h1 h2 _ _ hf.1.symm hf.2.symm

/-- divide does as it should where the dividend has at most two words -/
theorem divOk_small {a b : Nat} (ha : a < 18446744073709551616) (hb : 0 < b) : DivOk a b := by
  intro A n c B m d w hx hy
  have hn : n ≤ 2 := by rw [← hx.len]; exact digs_length_le (by omega)
  by_cases h : a < b
  · exact i_divide_lt A B n c m d a b w hx hy h (by omega)
  · exact i_divide_two A B n c m d a b w hx hy (by omega) hb hn

end Go.Proofs.Ytdmijpechdaniaa
